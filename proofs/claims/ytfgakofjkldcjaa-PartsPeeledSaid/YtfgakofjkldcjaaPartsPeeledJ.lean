/- PartsPeeled: for every input the law answers true and leaves its arguments as they were. -/
import Derived.Test.YtfgakofjkldcjaaPartsPeeledI
import Derived.OrdersHeld
import Derived.WalkKit
import Derived.Deep.AppendSrc
import Derived.Deep.MidRow
import Derived.Laws.OwnMore
import Derived.WalkSpells
import Derived.Lib.ConvBytes
import Derived.Lib.AppendZerosOnto
import Derived.Laws.StructEq
import Derived.Maps.RangeRun
import Derived.Laws.Pointers
import Derived.Test.YtfgakofjkldcjaaProg
import Derived.KernelRfl
import Derived.Lib.Mul64
namespace Go.Proofs.Ytfgakofjkldcjaa
open Go Go.Sx
set_option maxRecDepth 20000
theorem mul64_ok (x y : Nat) (hx : x < 18446744073709551616) (hy : y < 18446744073709551616) (w : World) : Calls Try.prog 157 #[.int .u64 ((x : Nat) : Int), .int .u64 ((y : Nat) : Int)] w fun e w' => e = .returned (.tuple #[.int .u64 ((x * y / 18446744073709551616 : Nat) : Int), .int .u64 ((x * y % 18446744073709551616 : Nat) : Int)]) ∧ Le w w' := by
  obtain ⟨h1, h2, h3, h4⟩ := Go.Lib.mul64_hi x y hx hy
  have h5 : x * y / 18446744073709551616 < 18446744073709551616 := by
    rw [Nat.div_lt_iff_lt_mul (by decide)]
    exact Nat.mul_lt_mul'' hx hy
  have ha := Go.Lib.half_mul_le (a := x / 4294967296) (b := y / 4294967296) (by omega) (by omega)
  have hb := Go.Lib.half_mul_le (a := x / 4294967296) (b := y % 4294967296) (by omega) (by omega)
  have hc := Go.Lib.half_mul_le (a := x % 4294967296) (b := y / 4294967296) (by omega) (by omega)
  refine enter Try.func157 rfl rfl ?_
  have L0 := Le.refl w
  refine WC.seq ?_
  refine WC.region ?_
  refine W.any (.assign rfl) rfl rfl rfl ?_
  refine W.any (.assign rfl) rfl rfl rfl ?_
  refine W.nil ?_
  refine E.thenN ?_
  refine WC.seq ?_
  refine WC.region ?_
  refine W.any (.move rfl) rfl rfl rfl ?_
  refine W.any (.andE (x) (4294967295) (x % 4294967296) rfl rfl rfl rfl (by omega) (by omega) (mask32 _)) rfl rfl rfl ?_
  refine W.any (.assign rfl) rfl rfl rfl ?_
  refine W.nil ?_
  refine E.thenN ?_
  refine WC.seq ?_
  refine WC.region ?_
  refine W.any (.move rfl) rfl rfl rfl ?_
  refine W.any (.shrE (x) (32) (x / 4294967296) rfl rfl rfl rfl (by decide) (rfl)) rfl rfl rfl ?_
  refine W.any (.assign rfl) rfl rfl rfl ?_
  refine W.nil ?_
  refine E.thenN ?_
  refine WC.seq ?_
  refine WC.region ?_
  refine W.any (.move rfl) rfl rfl rfl ?_
  refine W.any (.andE (y) (4294967295) (y % 4294967296) rfl rfl rfl rfl (by omega) (by omega) (mask32 _)) rfl rfl rfl ?_
  refine W.any (.assign rfl) rfl rfl rfl ?_
  refine W.nil ?_
  refine E.thenN ?_
  refine WC.seq ?_
  refine WC.region ?_
  refine W.any (.move rfl) rfl rfl rfl ?_
  refine W.any (.shrE (y) (32) (y / 4294967296) rfl rfl rfl rfl (by decide) (rfl)) rfl rfl rfl ?_
  refine W.any (.assign rfl) rfl rfl rfl ?_
  refine W.nil ?_
  refine E.thenN ?_
  refine WC.seq ?_
  refine WC.region ?_
  refine W.any (.move rfl) rfl rfl rfl ?_
  refine W.any (.move rfl) rfl rfl rfl ?_
  refine W.any (.mulN (x % 4294967296) (y % 4294967296) ((x % 4294967296) * (y % 4294967296)) rfl rfl rfl rfl (Nat.mod_eq_of_lt h1)) rfl rfl rfl ?_
  refine W.any (.assign rfl) rfl rfl rfl ?_
  refine W.nil ?_
  refine E.thenN ?_
  refine WC.seq ?_
  refine WC.region ?_
  refine W.any (.move rfl) rfl rfl rfl ?_
  refine W.any (.move rfl) rfl rfl rfl ?_
  refine W.any (.mulN (x / 4294967296) (y % 4294967296) ((x / 4294967296) * (y % 4294967296)) rfl rfl rfl rfl (Nat.mod_eq_of_lt (by omega))) rfl rfl rfl ?_
  refine W.any (.move rfl) rfl rfl rfl ?_
  refine W.any (.shrE ((x % 4294967296) * (y % 4294967296)) (32) ((x % 4294967296) * (y % 4294967296) / 4294967296) rfl rfl rfl rfl (by decide) (rfl)) rfl rfl rfl ?_
  refine W.any (.addN ((x / 4294967296) * (y % 4294967296)) ((x % 4294967296) * (y % 4294967296) / 4294967296) ((x / 4294967296) * (y % 4294967296) + (x % 4294967296) * (y % 4294967296) / 4294967296) rfl rfl rfl rfl (Nat.mod_eq_of_lt h2)) rfl rfl rfl ?_
  refine W.any (.assign rfl) rfl rfl rfl ?_
  refine W.nil ?_
  refine E.thenN ?_
  refine WC.seq ?_
  refine WC.region ?_
  refine W.any (.move rfl) rfl rfl rfl ?_
  refine W.any (.andE ((x / 4294967296) * (y % 4294967296) + (x % 4294967296) * (y % 4294967296) / 4294967296) (4294967295) (((x / 4294967296) * (y % 4294967296) + (x % 4294967296) * (y % 4294967296) / 4294967296) % 4294967296) rfl rfl rfl rfl (by omega) (by omega) (mask32 _)) rfl rfl rfl ?_
  refine W.any (.assign rfl) rfl rfl rfl ?_
  refine W.nil ?_
  refine E.thenN ?_
  refine WC.seq ?_
  refine WC.region ?_
  refine W.any (.move rfl) rfl rfl rfl ?_
  refine W.any (.shrE ((x / 4294967296) * (y % 4294967296) + (x % 4294967296) * (y % 4294967296) / 4294967296) (32) (((x / 4294967296) * (y % 4294967296) + (x % 4294967296) * (y % 4294967296) / 4294967296) / 4294967296) rfl rfl rfl rfl (by decide) (rfl)) rfl rfl rfl ?_
  refine W.any (.assign rfl) rfl rfl rfl ?_
  refine W.nil ?_
  refine E.thenN ?_
  refine WC.seq ?_
  refine WC.region ?_
  refine W.any (.move rfl) rfl rfl rfl ?_
  refine W.any (.move rfl) rfl rfl rfl ?_
  refine W.any (.move rfl) rfl rfl rfl ?_
  refine W.any (.mulN (x % 4294967296) (y / 4294967296) ((x % 4294967296) * (y / 4294967296)) rfl rfl rfl rfl (Nat.mod_eq_of_lt (by omega))) rfl rfl rfl ?_
  refine W.any (.addN (((x / 4294967296) * (y % 4294967296) + (x % 4294967296) * (y % 4294967296) / 4294967296) % 4294967296) ((x % 4294967296) * (y / 4294967296)) (((x / 4294967296) * (y % 4294967296) + (x % 4294967296) * (y % 4294967296) / 4294967296) % 4294967296 + (x % 4294967296) * (y / 4294967296)) rfl rfl rfl rfl (Nat.mod_eq_of_lt h3)) rfl rfl rfl ?_
  refine W.any (.assign rfl) rfl rfl rfl ?_
  refine W.nil ?_
  refine E.thenN ?_
  refine WC.seq ?_
  refine WC.region ?_
  refine W.any (.move rfl) rfl rfl rfl ?_
  refine W.any (.move rfl) rfl rfl rfl ?_
  refine W.any (.mulN (x / 4294967296) (y / 4294967296) ((x / 4294967296) * (y / 4294967296)) rfl rfl rfl rfl (Nat.mod_eq_of_lt (by omega))) rfl rfl rfl ?_
  refine W.any (.move rfl) rfl rfl rfl ?_
  refine W.any (.addN ((x / 4294967296) * (y / 4294967296)) (((x / 4294967296) * (y % 4294967296) + (x % 4294967296) * (y % 4294967296) / 4294967296) / 4294967296) ((x / 4294967296) * (y / 4294967296) + ((x / 4294967296) * (y % 4294967296) + (x % 4294967296) * (y % 4294967296) / 4294967296) / 4294967296) rfl rfl rfl rfl (Nat.mod_eq_of_lt (by omega))) rfl rfl rfl ?_
  refine W.any (.move rfl) rfl rfl rfl ?_
  refine W.any (.shrE (((x / 4294967296) * (y % 4294967296) + (x % 4294967296) * (y % 4294967296) / 4294967296) % 4294967296 + (x % 4294967296) * (y / 4294967296)) (32) ((((x / 4294967296) * (y % 4294967296) + (x % 4294967296) * (y % 4294967296) / 4294967296) % 4294967296 + (x % 4294967296) * (y / 4294967296)) / 4294967296) rfl rfl rfl rfl (by decide) (rfl)) rfl rfl rfl ?_
  refine W.any (.addN ((x / 4294967296) * (y / 4294967296) + ((x / 4294967296) * (y % 4294967296) + (x % 4294967296) * (y % 4294967296) / 4294967296) / 4294967296) ((((x / 4294967296) * (y % 4294967296) + (x % 4294967296) * (y % 4294967296) / 4294967296) % 4294967296 + (x % 4294967296) * (y / 4294967296)) / 4294967296) (x * y / 18446744073709551616) rfl rfl rfl rfl ((Nat.mod_eq_of_lt (by rw [h4]; exact h5)).trans h4)) rfl rfl rfl ?_
  refine W.any (.assign rfl) rfl rfl rfl ?_
  refine W.nil ?_
  refine E.thenN ?_
  refine WC.seq ?_
  refine WC.region ?_
  refine W.any (.move rfl) rfl rfl rfl ?_
  refine W.any (.move rfl) rfl rfl rfl ?_
  refine W.any (.mulN (x) (y) (x * y % 18446744073709551616) rfl rfl rfl rfl (rfl)) rfl rfl rfl ?_
  refine W.any (.assign rfl) rfl rfl rfl ?_
  refine W.nil ?_
  refine E.thenN ?_
  refine WC.ret ?_
  refine E.ret2 rfl rfl rfl ?_
  exact ⟨rfl, L0⟩

def tab8 : ByteArray := ⟨[0, 1, 2, 2, 3, 3, 3, 3, 4, 4, 4, 4, 4, 4, 4, 4, 5, 5, 5, 5, 5, 5, 5, 5, 5, 5, 5, 5, 5, 5, 5, 5, 6, 6, 6, 6, 6, 6, 6, 6, 6, 6, 6, 6, 6, 6, 6, 6, 6, 6, 6, 6, 6, 6, 6, 6, 6, 6, 6, 6, 6, 6, 6, 6, 7, 7, 7, 7, 7, 7, 7, 7, 7, 7, 7, 7, 7, 7, 7, 7, 7, 7, 7, 7, 7, 7, 7, 7, 7, 7, 7, 7, 7, 7, 7, 7, 7, 7, 7, 7, 7, 7, 7, 7, 7, 7, 7, 7, 7, 7, 7, 7, 7, 7, 7, 7, 7, 7, 7, 7, 7, 7, 7, 7, 7, 7, 7, 7, 8, 8, 8, 8, 8, 8, 8, 8, 8, 8, 8, 8, 8, 8, 8, 8, 8, 8, 8, 8, 8, 8, 8, 8, 8, 8, 8, 8, 8, 8, 8, 8, 8, 8, 8, 8, 8, 8, 8, 8, 8, 8, 8, 8, 8, 8, 8, 8, 8, 8, 8, 8, 8, 8, 8, 8, 8, 8, 8, 8, 8, 8, 8, 8, 8, 8, 8, 8, 8, 8, 8, 8, 8, 8, 8, 8, 8, 8, 8, 8, 8, 8, 8, 8, 8, 8, 8, 8, 8, 8, 8, 8, 8, 8, 8, 8, 8, 8, 8, 8, 8, 8, 8, 8, 8, 8, 8, 8, 8, 8, 8, 8, 8, 8, 8, 8, 8, 8, 8, 8, 8, 8, 8, 8, 8, 8, 8, 8].toArray⟩

theorem len8 : ∀ m, 16 ≤ m → m < 64 → tab8[m]? = some (if m < 32 then 5 else 6) := by
  have h : ∀ m : Fin 64, 16 ≤ m.val → tab8[m.val]? = some (if m.val < 32 then 5 else 6) := by decide +kernel
  exact fun m h1 h2 => h ⟨m, h2⟩ h1

theorem len64_ok (y : Nat) (h1 : 1152921504606846976 ≤ y) (h2 : y < 4611686018427387904) (w : World) : Calls Try.prog 179 #[.int .u64 ((y : Nat) : Int)] w fun e w' => e = .returned (.int .i64 (if y < 2305843009213693952 then 61 else 62)) ∧ Le w w' := by
  refine enter Try.func179 rfl rfl ?_
  have L0 := Le.refl w
  refine WC.seq ?_
  refine WC.region ?_
  refine W.any (.assign rfl) rfl rfl rfl ?_
  refine W.nil ?_
  refine E.thenN ?_
  refine WC.seq ?_
  refine WC.seq ?_
  refine WC.region ?_
  refine W.any (.move rfl) rfl rfl rfl ?_
  refine W.any (.geq rfl rfl) rfl rfl rfl ?_
  refine W.nil ?_
  refine E.thenN ?_
  refine WC.condB rfl (fun _ => ?_) (fun h => absurd h (by simp; omega))
  refine WC.seq ?_
  refine WC.region ?_
  refine W.any (.move rfl) rfl rfl rfl ?_
  refine W.any (.shrE (y) (32) (y / 4294967296) rfl rfl rfl rfl (by decide) (rfl)) rfl rfl rfl ?_
  refine W.any (.assign rfl) rfl rfl rfl ?_
  refine W.nil ?_
  refine E.thenN ?_
  refine WC.region ?_
  refine W.any (.assign rfl) rfl rfl rfl ?_
  refine W.nil ?_
  refine E.thenN ?_
  refine WC.seq ?_
  refine WC.seq ?_
  refine WC.region ?_
  refine W.any (.move rfl) rfl rfl rfl ?_
  refine W.any (.geq rfl rfl) rfl rfl rfl ?_
  refine W.nil ?_
  refine E.thenN ?_
  refine WC.condB rfl (fun _ => ?_) (fun h => absurd h (by simp; omega))
  refine WC.seq ?_
  refine WC.region ?_
  refine W.any (.move rfl) rfl rfl rfl ?_
  refine W.any (.shrE (y / 4294967296) (16) (y / 281474976710656) rfl rfl rfl rfl (by decide) (by omega)) rfl rfl rfl ?_
  refine W.any (.assign rfl) rfl rfl rfl ?_
  refine W.nil ?_
  refine E.thenN ?_
  refine WC.region ?_
  refine W.any (.move rfl) rfl rfl rfl ?_
  refine W.any (.add rfl rfl (by omega)) rfl rfl rfl ?_
  refine W.any (.assign rfl) rfl rfl rfl ?_
  refine W.nil ?_
  refine E.thenN ?_
  refine WC.seq ?_
  refine WC.seq ?_
  refine WC.region ?_
  refine W.any (.move rfl) rfl rfl rfl ?_
  refine W.any (.geq rfl rfl) rfl rfl rfl ?_
  refine W.nil ?_
  refine E.thenN ?_
  refine WC.condB rfl (fun _ => ?_) (fun h => absurd h (by simp; omega))
  refine WC.seq ?_
  refine WC.region ?_
  refine W.any (.move rfl) rfl rfl rfl ?_
  refine W.any (.shrE (y / 281474976710656) (8) (y / 72057594037927936) rfl rfl rfl rfl (by decide) (by omega)) rfl rfl rfl ?_
  refine W.any (.assign rfl) rfl rfl rfl ?_
  refine W.nil ?_
  refine E.thenN ?_
  refine WC.region ?_
  refine W.any (.move rfl) rfl rfl rfl ?_
  refine W.any (.add rfl rfl (by omega)) rfl rfl rfl ?_
  refine W.any (.assign rfl) rfl rfl rfl ?_
  refine W.nil ?_
  refine E.thenN ?_
  refine WC.seq ?_
  refine WC.region ?_
  refine W.any (.move rfl) rfl rfl rfl ?_
  refine W.any (.move rfl) rfl rfl rfl ?_
  refine W.rd (.toU8 (y / 72057594037927936) (isS Try.underlying29) Try.underlying5 rfl rfl) rfl rfl rfl ?_
  refine W.any (.idxStr (y / 72057594037927936) (if y / 72057594037927936 < 32 then 5 else 6) Try.underlying9 rfl rfl (by rw [BitVec.toNat_ofNat, Nat.mod_eq_of_lt (by omega)]) (len8 (y / 72057594037927936) (by omega) (by omega))) rfl rfl rfl ?_
  refine W.rd (.idI (isS Try.underlying5) Try.underlying3 rfl (IntWalk.i64_in _ (by split <;> decide))) rfl rfl rfl ?_
  refine W.any (.add rfl rfl (by split <;> decide)) rfl rfl rfl ?_
  refine W.any (.assign rfl) rfl rfl rfl ?_
  refine W.nil ?_
  refine E.thenN ?_
  refine WC.ret ?_
  refine E.ret1 rfl rfl ?_
  exact ⟨by congr 2; split <;> split <;> simp_all <;> omega, L0⟩

theorem lz64_ok (y : Nat) (h1 : 1152921504606846976 ≤ y) (h2 : y < 4611686018427387904) (w : World) : Calls Try.prog 181 #[.int .u64 ((y : Nat) : Int)] w fun e w' => e = .returned (.int .i64 (if y < 2305843009213693952 then 3 else 2)) ∧ Le w w' := by
  refine enter Try.func181 rfl rfl ?_
  have L0 := Le.refl w
  refine WC.seq ?_
  refine WC.region ?_
  refine W.any (.assign rfl) rfl rfl rfl ?_
  refine W.nil ?_
  refine E.thenN ?_
  refine WC.seq ?_
  refine WC.region ?_
  refine W.any (.move rfl) rfl rfl rfl ?_
  refine W.ef rfl rfl rfl ?_
  refine Ef.call go179 rfl rfl (len64_ok y h1 h2 w) ?_
  rintro _ w1_1 ⟨rfl, h1_1⟩
  refine ⟨_, rfl, ?_⟩
  have L1_1 := L0.trans h1_1
  refine W.any (.sub rfl rfl (by split <;> omega)) rfl rfl rfl ?_
  refine W.any (.assign rfl) rfl rfl rfl ?_
  refine W.nil ?_
  refine E.thenN ?_
  refine WC.ret ?_
  refine E.ret1 rfl rfl ?_
  exact ⟨by congr 2; split <;> rfl, L1_1⟩

theorem div64_ok2 (h l y : Nat) (h1 : 2305843009213693952 ≤ y) (h2 : y < 4611686018427387904) (hh : h < y) (hl : l < 18446744073709551616) (w : World) : Calls Try.prog 158 #[.int .u64 ((h : Nat) : Int), .int .u64 ((l : Nat) : Int), .int .u64 ((y : Nat) : Int)] w fun e w' => ∃ qq : Int, e = .returned (.tuple #[.int .u64 qq, .int .u64 (((h * 18446744073709551616 + l) % y : Nat) : Int)]) ∧ Le w w' := by
  obtain ⟨Y, hYd⟩ : ∃ Y, Y = y * 4 := ⟨_, rfl⟩
  obtain ⟨a, ha⟩ : ∃ a, a = Y / 4294967296 := ⟨_, rfl⟩
  obtain ⟨b, hb0⟩ : ∃ b, b = Y % 4294967296 := ⟨_, rfl⟩
  obtain ⟨U, hUd⟩ : ∃ U, U = h * 4 + l / 4611686018427387904 := ⟨_, rfl⟩
  obtain ⟨v, hv⟩ : ∃ v, v = l * 4 % 18446744073709551616 := ⟨_, rfl⟩
  obtain ⟨e1, he1⟩ : ∃ e1, e1 = v / 4294967296 := ⟨_, rfl⟩
  obtain ⟨e0, he0⟩ : ∃ e0, e0 = v % 4294967296 := ⟨_, rfl⟩
  have hY : Y = a * 4294967296 + b := by omega
  have hYlo : 9223372036854775808 ≤ Y := by omega
  have hYhi : Y < 18446744073709551616 := by omega
  have ha1 : 2147483648 ≤ a := by omega
  have ha2 : a < 4294967296 := by omega
  have hb1 : b < 4294967296 := by omega
  have hv2 : v < 18446744073709551616 := by omega
  have he12 : e1 < 4294967296 := by omega
  have he02 : e0 < 4294967296 := by omega
  have hU : U < Y := by omega
  obtain ⟨R, hR⟩ : ∃ R, R = (U * 4294967296 + e1) % Y := ⟨_, rfl⟩
  obtain ⟨Q1, hQ1⟩ : ∃ Q1, Q1 = (U * 4294967296 + e1) / Y := ⟨_, rfl⟩
  obtain ⟨Q2, hQ2⟩ : ∃ Q2, Q2 = (R * 4294967296 + e0) / Y := ⟨_, rfl⟩
  have hRY : R < Y := by rw [hR]; exact Nat.mod_lt _ (by omega)
  have hfin : (R * 4294967296 + e0) % Y / 2 ^ 2 = (h * 18446744073709551616 + l) % y := div_fin2 h l y Y U v e1 e0 R hYd hUd hv he1 he0 hR (by omega)
  have hlz : ∀ w, Calls Try.prog 181 #[.int .u64 ((y : Nat) : Int)] w (fun e w' => e = .returned (.int .i64 2) ∧ Le w w') := fun w => by
    have := lz64_ok y (by omega) (by omega) w
    rw [if_neg (by omega)] at this
    exact this
  refine enter Try.func158 rfl rfl ?_
  have L0 := Le.refl w
  refine WC.seq ?_
  refine WC.region ?_
  refine W.any (.assign rfl) rfl rfl rfl ?_
  refine W.any (.assign rfl) rfl rfl rfl ?_
  refine W.nil ?_
  refine E.thenN ?_
  refine WC.seq ?_
  refine WC.seq ?_
  refine WC.region ?_
  refine W.any (.move rfl) rfl rfl rfl ?_
  refine W.any (.eql rfl rfl) rfl rfl rfl ?_
  refine W.nil ?_
  refine E.thenN ?_
  refine WC.condB rfl (fun h => absurd h (by simp; omega)) (fun _ => ?_)
  refine WC.skip ?_
  refine E.thenN ?_
  refine WC.seq ?_
  refine WC.seq ?_
  refine WC.region ?_
  refine W.any (.move rfl) rfl rfl rfl ?_
  refine W.any (.move rfl) rfl rfl rfl ?_
  refine W.any (.leq rfl rfl) rfl rfl rfl ?_
  refine W.nil ?_
  refine E.thenN ?_
  refine WC.condB rfl (fun h => absurd h (by simp; omega)) (fun _ => ?_)
  refine WC.skip ?_
  refine E.thenN ?_
  refine WC.seq ?_
  refine WC.seq ?_
  refine WC.region ?_
  refine W.any (.move rfl) rfl rfl rfl ?_
  refine W.any (.eql rfl rfl) rfl rfl rfl ?_
  refine W.nil ?_
  refine E.thenN ?_
  refine WC.cond rfl (fun c2 => ?_) (fun c2 => ?_)
  · have h0 : h = 0 := by omega
    subst h0
    refine WC.seq ?_
    refine WC.draw [0, 1, 2, 3, 4, 5, 6, 7] mixed (by kernel_rfl) ?_
    intro w6 d6
    have L6 := L0.trans d6
    refine G.any rfl rfl (.move rfl) rfl rfl rfl ?_
    refine G.any rfl rfl (.move rfl) rfl rfl rfl ?_
    refine G.any rfl rfl (.quoN (l) (y) (l / y) rfl rfl rfl rfl (by omega) (by omega) (rfl)) rfl rfl rfl ?_
    refine G.any rfl rfl (.move rfl) rfl rfl rfl ?_
    refine G.any rfl rfl (.move rfl) rfl rfl rfl ?_
    refine G.any rfl rfl (.remN (l) (y) (l % y) rfl rfl rfl rfl (by omega) (rfl)) rfl rfl rfl ?_
    refine G.any rfl rfl (.assign rfl) rfl rfl rfl ?_
    refine G.any rfl rfl (.assign rfl) rfl rfl rfl ?_
    refine G.nil ?_
    refine E.thenN ?_
    refine WC.ret ?_
    refine E.thenR ?_
    refine E.ret2 rfl rfl rfl ?_
    exact ⟨_, by rw [Nat.zero_mul, Nat.zero_add], L6⟩
  · refine WC.skip ?_
    refine E.thenN ?_
    refine WC.seq ?_
    refine WC.region ?_
    refine W.any (.move rfl) rfl rfl rfl ?_
    refine W.ef rfl rfl rfl ?_
    refine Ef.call go181 rfl rfl (hlz w) ?_
    rintro _ w7_1 ⟨rfl, h7_1⟩
    refine ⟨_, rfl, ?_⟩
    have L7_1 := L0.trans h7_1
    refine W.rd (.idI (isS Try.underlying3) Try.underlying213 rfl (IntWalk.u64_in _ (by decide))) rfl rfl rfl ?_
    refine W.any (.assign rfl) rfl rfl rfl ?_
    refine W.nil ?_
    refine E.thenN ?_
    refine WC.seq ?_
    refine WC.region ?_
    refine W.any (.move rfl) rfl rfl rfl ?_
    refine W.any (.move rfl) rfl rfl rfl ?_
    refine W.any (.shlN (y) (2) (Y) rfl rfl rfl rfl (by decide) (by omega)) rfl rfl rfl ?_
    refine W.any (.assign rfl) rfl rfl rfl ?_
    refine W.nil ?_
    refine E.thenN ?_
    refine WC.seq ?_
    refine WC.region ?_
    refine W.any (.move rfl) rfl rfl rfl ?_
    refine W.any (.shrE (Y) (32) (a) rfl rfl rfl rfl (by decide) (by omega)) rfl rfl rfl ?_
    refine W.any (.assign rfl) rfl rfl rfl ?_
    refine W.nil ?_
    refine E.thenN ?_
    refine WC.seq ?_
    refine WC.region ?_
    refine W.any (.move rfl) rfl rfl rfl ?_
    refine W.any (.andE (Y) (4294967295) (b) rfl rfl rfl rfl (by omega) (by omega) ((mask32 _).trans hb0.symm)) rfl rfl rfl ?_
    refine W.any (.assign rfl) rfl rfl rfl ?_
    refine W.nil ?_
    refine E.thenN ?_
    refine WC.seq ?_
    refine WC.region ?_
    refine W.any (.move rfl) rfl rfl rfl ?_
    refine W.any (.move rfl) rfl rfl rfl ?_
    refine W.any (.shlN (h) (2) (h * 4) rfl rfl rfl rfl (by decide) (by omega)) rfl rfl rfl ?_
    refine W.any (.move rfl) rfl rfl rfl ?_
    refine W.any (.move rfl) rfl rfl rfl ?_
    refine W.any (.subN (64) (2) (62) rfl rfl rfl rfl (by decide) (by decide)) rfl rfl rfl ?_
    refine W.any (.shrE (l) (62) (l / 4611686018427387904) rfl rfl rfl rfl (by decide) (rfl)) rfl rfl rfl ?_
    refine W.any (.orE (h * 4) (l / 4611686018427387904) (U) rfl rfl rfl rfl (by omega) (by omega) (by rw [hUd, Nat.mul_comm h, show (4 : Nat) = 2 ^ 2 by decide]; exact (Nat.two_pow_add_eq_or_of_lt (by omega) _).symm)) rfl rfl rfl ?_
    refine W.any (.assign rfl) rfl rfl rfl ?_
    refine W.nil ?_
    refine E.thenN ?_
    refine WC.seq ?_
    refine WC.region ?_
    refine W.any (.move rfl) rfl rfl rfl ?_
    refine W.any (.move rfl) rfl rfl rfl ?_
    refine W.any (.shlN (l) (2) (v) rfl rfl rfl rfl (by decide) (hv.symm)) rfl rfl rfl ?_
    refine W.any (.assign rfl) rfl rfl rfl ?_
    refine W.nil ?_
    refine E.thenN ?_
    refine WC.seq ?_
    refine WC.region ?_
    refine W.any (.move rfl) rfl rfl rfl ?_
    refine W.any (.shrE (v) (32) (e1) rfl rfl rfl rfl (by decide) (by omega)) rfl rfl rfl ?_
    refine W.any (.assign rfl) rfl rfl rfl ?_
    refine W.nil ?_
    refine E.thenN ?_
    refine WC.seq ?_
    refine WC.region ?_
    refine W.any (.move rfl) rfl rfl rfl ?_
    refine W.any (.andE (v) (4294967295) (e0) rfl rfl rfl rfl (by omega) (by omega) ((mask32 _).trans he0.symm)) rfl rfl rfl ?_
    refine W.any (.assign rfl) rfl rfl rfl ?_
    refine W.nil ?_
    refine E.thenN ?_
    refine WC.seq ?_
    refine WC.region ?_
    refine W.any (.move rfl) rfl rfl rfl ?_
    refine W.any (.move rfl) rfl rfl rfl ?_
    refine W.any (.quoN (U) (a) (U / a) rfl rfl rfl rfl (by omega) (by omega) (rfl)) rfl rfl rfl ?_
    refine W.any (.assign rfl) rfl rfl rfl ?_
    refine W.nil ?_
    refine E.thenN ?_
    refine WC.seq ?_
    refine WC.region ?_
    refine W.any (.move rfl) rfl rfl rfl ?_
    refine W.any (.move rfl) rfl rfl rfl ?_
    refine W.any (.move rfl) rfl rfl rfl ?_
    refine W.any (.mulN (U / a) (a) (U / a * a) rfl rfl rfl rfl (Nat.mod_eq_of_lt (Nat.lt_of_le_of_lt (Nat.div_mul_le_self _ _) (by omega)))) rfl rfl rfl ?_
    refine W.any (.subN (U) (U / a * a) (U % a) rfl rfl rfl rfl (Nat.le_trans (Nat.div_mul_le_self _ _) (by omega)) (sub_div U a (by omega))) rfl rfl rfl ?_
    refine W.any (.assign rfl) rfl rfl rfl ?_
    refine W.nil ?_
    refine E.thenN ?_
    refine WC.cut (ι := Unit) (fun () => [(2, .int .u64 ((Y : Nat) : Int)), (8, .int .u64 (2 : Int)), (9, .int .u64 ((a : Nat) : Int)), (10, .int .u64 ((b : Nat) : Int)), (11, .int .u64 ((U : Nat) : Int)), (13, .int .u64 ((e1 : Nat) : Int)), (14, .int .u64 ((e0 : Nat) : Int)), (15, .int .u64 ((Q1 : Nat) : Int))]) (fun () wc15 => Le w wc15) ?_ ?_
    · refine WC.block ?_
      refine WC.loop (ι := Nat × Nat) (fun ⟨qh, rh⟩ => [(2, .int .u64 ((Y : Nat) : Int)), (8, .int .u64 (2 : Int)), (9, .int .u64 ((a : Nat) : Int)), (10, .int .u64 ((b : Nat) : Int)), (11, .int .u64 ((U : Nat) : Int)), (13, .int .u64 ((e1 : Nat) : Int)), (14, .int .u64 ((e0 : Nat) : Int)), (15, .int .u64 ((qh : Nat) : Int)), (16, .int .u64 ((rh : Nat) : Int))]) (fun ⟨qh, rh⟩ wl => Le w wl ∧ qh * a + rh = U ∧ Q1 ≤ qh ∧ rh < 4294967296 ∧ qh ≤ 4294967297) (fun ⟨qh, rh⟩ => qh) (U / a, U % a) ?_ ?_ ?_
      · exact .cons rfl (.cons rfl (.cons rfl (.cons rfl (.cons rfl (.cons rfl (.cons rfl (.cons rfl (.cons rfl (.nil _)))))))))
      · exact ⟨L7_1, by rw [Nat.mul_comm]; exact Nat.div_add_mod _ _, by rw [hQ1]; exact dig_start hY (by omega) hU (by omega), Nat.lt_of_lt_of_le (Nat.mod_lt _ (by omega)) (by omega), dig_first hY (by omega) (by omega) hU⟩
      · rintro ⟨qh, rh⟩ wl ⟨Ll, hi, hq, hr, hq2⟩
        refine WC.seq ?_
        refine WC.seq ?_
        refine WC.region ?_
        refine W.any (.move rfl) rfl rfl rfl ?_
        refine W.any (.geq rfl rfl) rfl rfl rfl ?_
        by_cases hb : 4294967296 ≤ qh
        · refine W.any (.move rfl) rfl rfl rfl ?_
          refine W.skip rfl rfl rfl (decide_eq_true (by omega)) rfl rfl ?_
          refine W.skip rfl rfl rfl (decide_eq_true (by omega)) rfl rfl ?_
          refine W.skip rfl rfl rfl (decide_eq_true (by omega)) rfl rfl ?_
          refine W.skip rfl rfl rfl (decide_eq_true (by omega)) rfl rfl ?_
          refine W.skip rfl rfl rfl (decide_eq_true (by omega)) rfl rfl ?_
          refine W.skip rfl rfl rfl (decide_eq_true (by omega)) rfl rfl ?_
          refine W.skip rfl rfl rfl (decide_eq_true (by omega)) rfl rfl ?_
          refine W.skip rfl rfl rfl (decide_eq_true (by omega)) rfl rfl ?_
          refine W.any (.pickT rfl (decide_eq_true (by omega)) rfl) rfl rfl rfl ?_
          have hgt : Q1 < qh := by rw [hQ1]; exact dig_gt hY hU (by omega) hi (by omega)
          have hd : qh * a = (qh - 1) * a + a := by rw [← Nat.succ_mul]; congr 1; omega
          have hinv : (qh - 1) * a + (rh + a) = U := by omega
          refine W.nil ?_
          refine E.thenN ?_
          refine WC.condT rfl ?_
          refine WC.skip ?_
          refine E.thenN ?_
          refine WC.block ?_
          refine WC.seq ?_
          refine WC.region ?_
          refine W.any (.move rfl) rfl rfl rfl ?_
          refine W.any (.subN (qh) (1) (qh - 1) rfl rfl rfl rfl (by omega) (by omega)) rfl rfl rfl ?_
          refine W.any (.assign rfl) rfl rfl rfl ?_
          refine W.nil ?_
          refine E.thenN ?_
          refine WC.seq ?_
          refine WC.region ?_
          refine W.any (.move rfl) rfl rfl rfl ?_
          refine W.any (.move rfl) rfl rfl rfl ?_
          refine W.any (.addN (rh) (a) (rh + a) rfl rfl rfl rfl (by omega)) rfl rfl rfl ?_
          refine W.any (.assign rfl) rfl rfl rfl ?_
          refine W.nil ?_
          refine E.thenN ?_
          refine WC.seq ?_
          refine WC.region ?_
          refine W.any (.move rfl) rfl rfl rfl ?_
          refine W.any (.geq rfl rfl) rfl rfl rfl ?_
          refine W.nil ?_
          refine E.thenN ?_
          refine WC.cond rfl (fun c4 => ?_) (fun c4 => ?_)
          · have hqe : qh - 1 = Q1 := Nat.le_antisymm (by rw [hQ1]; exact dig_brk hY (by omega) hb1 hinv (by omega) (by omega)) (by omega)
            refine WC.exit ?_
            refine E.blkX rfl ?_
            refine E.thenX ?_
            refine E.blkH ?_
            refine E.meet () (.cons rfl (.cons rfl (.cons rfl (.cons rfl (.cons rfl (.cons rfl (.cons rfl (.cons' rfl (int_eq (by rw [hqe])) (.nil _))))))))) ?_
            exact Ll
          · refine WC.skip ?_
            refine E.blkN ?_
            refine E.again (qh - 1, rh + a) (.cons rfl (.cons rfl (.cons rfl (.cons rfl (.cons rfl (.cons rfl (.cons rfl (.cons rfl (.cons rfl (.nil _)))))))))) ?_ ?_
            · exact ⟨Ll, hinv, by omega, by omega, by omega⟩
            · first | omega | (simp only []; omega)
        · refine W.any (.move rfl) rfl rfl rfl ?_
          refine W.rdg (Any.rd (.move rfl) _) rfl rfl rfl (decide_eq_false (by omega)) rfl rfl ?_
          refine W.rdg (Any.rd (.move rfl) _) rfl rfl rfl (decide_eq_false (by omega)) rfl rfl ?_
          have hqb : qh * b < 18446744073709551616 := Nat.lt_of_le_of_lt (Nat.mul_le_mul (show qh ≤ 4294967295 by omega) (show b ≤ 4294967295 by omega)) (by decide)
          refine W.rdg (Any.rd (.mulN (qh) (b) (qh * b) rfl rfl rfl rfl (Nat.mod_eq_of_lt hqb)) _) rfl rfl rfl (decide_eq_false (by omega)) rfl rfl ?_
          refine W.rdg (Any.rd (.move rfl) _) rfl rfl rfl (decide_eq_false (by omega)) rfl rfl ?_
          refine W.rdg (Any.rd (.mulN (4294967296) (rh) (4294967296 * rh) rfl rfl rfl rfl (by omega)) _) rfl rfl rfl (decide_eq_false (by omega)) rfl rfl ?_
          refine W.rdg (Any.rd (.move rfl) _) rfl rfl rfl (decide_eq_false (by omega)) rfl rfl ?_
          refine W.rdg (Any.rd (.addN (4294967296 * rh) (e1) (4294967296 * rh + e1) rfl rfl rfl rfl (by omega)) _) rfl rfl rfl (decide_eq_false (by omega)) rfl rfl ?_
          refine W.rdg (Any.rd (.gtr rfl rfl) _) rfl rfl rfl (decide_eq_false (by omega)) rfl rfl ?_
          refine W.any (.pickF rfl (decide_eq_false (by omega)) rfl) rfl rfl rfl ?_
          refine W.nil ?_
          refine E.thenN ?_
          refine WC.cond rfl (fun c3 => ?_) (fun c3 => ?_)
          · have hgt : Q1 < qh := by rw [hQ1]; exact dig_gt hY hU (by omega) hi (by omega)
            have hd : qh * a = (qh - 1) * a + a := by rw [← Nat.succ_mul]; congr 1; omega
            have hinv : (qh - 1) * a + (rh + a) = U := by omega
            refine WC.skip ?_
            refine E.thenN ?_
            refine WC.block ?_
            refine WC.seq ?_
            refine WC.region ?_
            refine W.any (.move rfl) rfl rfl rfl ?_
            refine W.any (.subN (qh) (1) (qh - 1) rfl rfl rfl rfl (by omega) (by omega)) rfl rfl rfl ?_
            refine W.any (.assign rfl) rfl rfl rfl ?_
            refine W.nil ?_
            refine E.thenN ?_
            refine WC.seq ?_
            refine WC.region ?_
            refine W.any (.move rfl) rfl rfl rfl ?_
            refine W.any (.move rfl) rfl rfl rfl ?_
            refine W.any (.addN (rh) (a) (rh + a) rfl rfl rfl rfl (by omega)) rfl rfl rfl ?_
            refine W.any (.assign rfl) rfl rfl rfl ?_
            refine W.nil ?_
            refine E.thenN ?_
            refine WC.seq ?_
            refine WC.region ?_
            refine W.any (.move rfl) rfl rfl rfl ?_
            refine W.any (.geq rfl rfl) rfl rfl rfl ?_
            refine W.nil ?_
            refine E.thenN ?_
            refine WC.cond rfl (fun c4 => ?_) (fun c4 => ?_)
            · have hqe : qh - 1 = Q1 := Nat.le_antisymm (by rw [hQ1]; exact dig_brk hY (by omega) hb1 hinv (by omega) (by omega)) (by omega)
              refine WC.exit ?_
              refine E.blkX rfl ?_
              refine E.thenX ?_
              refine E.blkH ?_
              refine E.meet () (.cons rfl (.cons rfl (.cons rfl (.cons rfl (.cons rfl (.cons rfl (.cons rfl (.cons' rfl (int_eq (by rw [hqe])) (.nil _))))))))) ?_
              exact Ll
            · refine WC.skip ?_
              refine E.blkN ?_
              refine E.again (qh - 1, rh + a) (.cons rfl (.cons rfl (.cons rfl (.cons rfl (.cons rfl (.cons rfl (.cons rfl (.cons rfl (.cons rfl (.nil _)))))))))) ?_ ?_
              · exact ⟨Ll, hinv, by omega, by omega, by omega⟩
              · first | omega | (simp only []; omega)
          · have hqe : qh = Q1 := Nat.le_antisymm (by rw [hQ1]; exact dig_le hY (by omega) hi (by omega)) hq
            refine WC.exit ?_
            refine E.thenX ?_
            refine E.thenX ?_
            refine E.blkH ?_
            refine E.meet () (.cons rfl (.cons rfl (.cons rfl (.cons rfl (.cons rfl (.cons rfl (.cons rfl (.cons' rfl (int_eq (by rw [hqe])) (.nil _))))))))) ?_
            exact Ll
    · rintro ⟨⟩ wc15 Lc15
      refine WC.seq ?_
      refine WC.region ?_
      refine W.any (.move rfl) rfl rfl rfl ?_
      refine W.any (.mulN (U) (4294967296) (U * 4294967296 % 18446744073709551616) rfl rfl rfl rfl (rfl)) rfl rfl rfl ?_
      refine W.any (.move rfl) rfl rfl rfl ?_
      refine W.any (.addN (U * 4294967296 % 18446744073709551616) (e1) ((U * 4294967296 + e1) % 18446744073709551616) rfl rfl rfl rfl (by rw [Nat.mod_add_mod])) rfl rfl rfl ?_
      refine W.any (.move rfl) rfl rfl rfl ?_
      refine W.any (.move rfl) rfl rfl rfl ?_
      refine W.any (.mulN (Q1) (Y) (Q1 * Y % 18446744073709551616) rfl rfl rfl rfl (rfl)) rfl rfl rfl ?_
      refine W.any (.subN ((U * 4294967296 + e1) % 18446744073709551616) (Q1 * Y % 18446744073709551616) (R) rfl rfl rfl rfl (Nat.le_of_lt (Nat.mod_lt _ (by decide))) ((dig_rest Y _ _ hQ1 (by omega) (by omega)).trans hR.symm)) rfl rfl rfl ?_
      refine W.any (.assign rfl) rfl rfl rfl ?_
      refine W.nil ?_
      refine E.thenN ?_
      refine WC.seq ?_
      refine WC.region ?_
      refine W.any (.move rfl) rfl rfl rfl ?_
      refine W.any (.move rfl) rfl rfl rfl ?_
      refine W.any (.quoN (R) (a) (R / a) rfl rfl rfl rfl (by omega) (by omega) (rfl)) rfl rfl rfl ?_
      refine W.any (.assign rfl) rfl rfl rfl ?_
      refine W.nil ?_
      refine E.thenN ?_
      refine WC.seq ?_
      refine WC.region ?_
      refine W.any (.move rfl) rfl rfl rfl ?_
      refine W.any (.move rfl) rfl rfl rfl ?_
      refine W.any (.move rfl) rfl rfl rfl ?_
      refine W.any (.mulN (R / a) (a) (R / a * a) rfl rfl rfl rfl (Nat.mod_eq_of_lt (Nat.lt_of_le_of_lt (Nat.div_mul_le_self _ _) (by omega)))) rfl rfl rfl ?_
      refine W.any (.subN (R) (R / a * a) (R % a) rfl rfl rfl rfl (Nat.le_trans (Nat.div_mul_le_self _ _) (by omega)) (sub_div R a (by omega))) rfl rfl rfl ?_
      refine W.any (.assign rfl) rfl rfl rfl ?_
      refine W.nil ?_
      refine E.thenN ?_
      refine WC.cut (ι := Unit) (fun () => [(2, .int .u64 ((Y : Nat) : Int)), (8, .int .u64 (2 : Int)), (9, .int .u64 ((a : Nat) : Int)), (10, .int .u64 ((b : Nat) : Int)), (14, .int .u64 ((e0 : Nat) : Int)), (17, .int .u64 ((R : Nat) : Int)), (15, .int .u64 ((Q1 : Nat) : Int)), (18, .int .u64 ((Q2 : Nat) : Int))]) (fun () wc18 => Le w wc18) ?_ ?_
      · refine WC.block ?_
        refine WC.loop (ι := Nat × Nat) (fun ⟨qh, rh⟩ => [(2, .int .u64 ((Y : Nat) : Int)), (8, .int .u64 (2 : Int)), (9, .int .u64 ((a : Nat) : Int)), (10, .int .u64 ((b : Nat) : Int)), (14, .int .u64 ((e0 : Nat) : Int)), (17, .int .u64 ((R : Nat) : Int)), (15, .int .u64 ((Q1 : Nat) : Int)), (18, .int .u64 ((qh : Nat) : Int)), (16, .int .u64 ((rh : Nat) : Int))]) (fun ⟨qh, rh⟩ wl => Le w wl ∧ qh * a + rh = R ∧ Q2 ≤ qh ∧ rh < 4294967296 ∧ qh ≤ 4294967297) (fun ⟨qh, rh⟩ => qh) (R / a, R % a) ?_ ?_ ?_
        · exact .cons rfl (.cons rfl (.cons rfl (.cons rfl (.cons rfl (.cons rfl (.cons rfl (.cons rfl (.cons rfl (.nil _)))))))))
        · exact ⟨Lc15, by rw [Nat.mul_comm]; exact Nat.div_add_mod _ _, by rw [hQ2]; exact dig_start hY (by omega) hRY (by omega), Nat.lt_of_lt_of_le (Nat.mod_lt _ (by omega)) (by omega), dig_first hY (by omega) (by omega) hRY⟩
        · rintro ⟨qh, rh⟩ wl ⟨Ll, hi, hq, hr, hq2⟩
          refine WC.seq ?_
          refine WC.seq ?_
          refine WC.region ?_
          refine W.any (.move rfl) rfl rfl rfl ?_
          refine W.any (.geq rfl rfl) rfl rfl rfl ?_
          by_cases hb : 4294967296 ≤ qh
          · refine W.any (.move rfl) rfl rfl rfl ?_
            refine W.skip rfl rfl rfl (decide_eq_true (by omega)) rfl rfl ?_
            refine W.skip rfl rfl rfl (decide_eq_true (by omega)) rfl rfl ?_
            refine W.skip rfl rfl rfl (decide_eq_true (by omega)) rfl rfl ?_
            refine W.skip rfl rfl rfl (decide_eq_true (by omega)) rfl rfl ?_
            refine W.skip rfl rfl rfl (decide_eq_true (by omega)) rfl rfl ?_
            refine W.skip rfl rfl rfl (decide_eq_true (by omega)) rfl rfl ?_
            refine W.skip rfl rfl rfl (decide_eq_true (by omega)) rfl rfl ?_
            refine W.skip rfl rfl rfl (decide_eq_true (by omega)) rfl rfl ?_
            refine W.any (.pickT rfl (decide_eq_true (by omega)) rfl) rfl rfl rfl ?_
            have hgt : Q2 < qh := by rw [hQ2]; exact dig_gt hY hRY (by omega) hi (by omega)
            have hd : qh * a = (qh - 1) * a + a := by rw [← Nat.succ_mul]; congr 1; omega
            have hinv : (qh - 1) * a + (rh + a) = R := by omega
            refine W.nil ?_
            refine E.thenN ?_
            refine WC.condT rfl ?_
            refine WC.skip ?_
            refine E.thenN ?_
            refine WC.block ?_
            refine WC.seq ?_
            refine WC.region ?_
            refine W.any (.move rfl) rfl rfl rfl ?_
            refine W.any (.subN (qh) (1) (qh - 1) rfl rfl rfl rfl (by omega) (by omega)) rfl rfl rfl ?_
            refine W.any (.assign rfl) rfl rfl rfl ?_
            refine W.nil ?_
            refine E.thenN ?_
            refine WC.seq ?_
            refine WC.region ?_
            refine W.any (.move rfl) rfl rfl rfl ?_
            refine W.any (.move rfl) rfl rfl rfl ?_
            refine W.any (.addN (rh) (a) (rh + a) rfl rfl rfl rfl (by omega)) rfl rfl rfl ?_
            refine W.any (.assign rfl) rfl rfl rfl ?_
            refine W.nil ?_
            refine E.thenN ?_
            refine WC.seq ?_
            refine WC.region ?_
            refine W.any (.move rfl) rfl rfl rfl ?_
            refine W.any (.geq rfl rfl) rfl rfl rfl ?_
            refine W.nil ?_
            refine E.thenN ?_
            refine WC.cond rfl (fun c6 => ?_) (fun c6 => ?_)
            · have hqe : qh - 1 = Q2 := Nat.le_antisymm (by rw [hQ2]; exact dig_brk hY (by omega) hb1 hinv (by omega) (by omega)) (by omega)
              refine WC.exit ?_
              refine E.blkX rfl ?_
              refine E.thenX ?_
              refine E.blkH ?_
              refine E.meet () (.cons rfl (.cons rfl (.cons rfl (.cons rfl (.cons rfl (.cons rfl (.cons rfl (.cons' rfl (int_eq (by rw [hqe])) (.nil _))))))))) ?_
              exact Ll
            · refine WC.skip ?_
              refine E.blkN ?_
              refine E.again (qh - 1, rh + a) (.cons rfl (.cons rfl (.cons rfl (.cons rfl (.cons rfl (.cons rfl (.cons rfl (.cons rfl (.cons rfl (.nil _)))))))))) ?_ ?_
              · exact ⟨Ll, hinv, by omega, by omega, by omega⟩
              · first | omega | (simp only []; omega)
          · refine W.any (.move rfl) rfl rfl rfl ?_
            refine W.rdg (Any.rd (.move rfl) _) rfl rfl rfl (decide_eq_false (by omega)) rfl rfl ?_
            refine W.rdg (Any.rd (.move rfl) _) rfl rfl rfl (decide_eq_false (by omega)) rfl rfl ?_
            have hqb : qh * b < 18446744073709551616 := Nat.lt_of_le_of_lt (Nat.mul_le_mul (show qh ≤ 4294967295 by omega) (show b ≤ 4294967295 by omega)) (by decide)
            refine W.rdg (Any.rd (.mulN (qh) (b) (qh * b) rfl rfl rfl rfl (Nat.mod_eq_of_lt hqb)) _) rfl rfl rfl (decide_eq_false (by omega)) rfl rfl ?_
            refine W.rdg (Any.rd (.move rfl) _) rfl rfl rfl (decide_eq_false (by omega)) rfl rfl ?_
            refine W.rdg (Any.rd (.mulN (4294967296) (rh) (4294967296 * rh) rfl rfl rfl rfl (by omega)) _) rfl rfl rfl (decide_eq_false (by omega)) rfl rfl ?_
            refine W.rdg (Any.rd (.move rfl) _) rfl rfl rfl (decide_eq_false (by omega)) rfl rfl ?_
            refine W.rdg (Any.rd (.addN (4294967296 * rh) (e0) (4294967296 * rh + e0) rfl rfl rfl rfl (by omega)) _) rfl rfl rfl (decide_eq_false (by omega)) rfl rfl ?_
            refine W.rdg (Any.rd (.gtr rfl rfl) _) rfl rfl rfl (decide_eq_false (by omega)) rfl rfl ?_
            refine W.any (.pickF rfl (decide_eq_false (by omega)) rfl) rfl rfl rfl ?_
            refine W.nil ?_
            refine E.thenN ?_
            refine WC.cond rfl (fun c5 => ?_) (fun c5 => ?_)
            · have hgt : Q2 < qh := by rw [hQ2]; exact dig_gt hY hRY (by omega) hi (by omega)
              have hd : qh * a = (qh - 1) * a + a := by rw [← Nat.succ_mul]; congr 1; omega
              have hinv : (qh - 1) * a + (rh + a) = R := by omega
              refine WC.skip ?_
              refine E.thenN ?_
              refine WC.block ?_
              refine WC.seq ?_
              refine WC.region ?_
              refine W.any (.move rfl) rfl rfl rfl ?_
              refine W.any (.subN (qh) (1) (qh - 1) rfl rfl rfl rfl (by omega) (by omega)) rfl rfl rfl ?_
              refine W.any (.assign rfl) rfl rfl rfl ?_
              refine W.nil ?_
              refine E.thenN ?_
              refine WC.seq ?_
              refine WC.region ?_
              refine W.any (.move rfl) rfl rfl rfl ?_
              refine W.any (.move rfl) rfl rfl rfl ?_
              refine W.any (.addN (rh) (a) (rh + a) rfl rfl rfl rfl (by omega)) rfl rfl rfl ?_
              refine W.any (.assign rfl) rfl rfl rfl ?_
              refine W.nil ?_
              refine E.thenN ?_
              refine WC.seq ?_
              refine WC.region ?_
              refine W.any (.move rfl) rfl rfl rfl ?_
              refine W.any (.geq rfl rfl) rfl rfl rfl ?_
              refine W.nil ?_
              refine E.thenN ?_
              refine WC.cond rfl (fun c6 => ?_) (fun c6 => ?_)
              · have hqe : qh - 1 = Q2 := Nat.le_antisymm (by rw [hQ2]; exact dig_brk hY (by omega) hb1 hinv (by omega) (by omega)) (by omega)
                refine WC.exit ?_
                refine E.blkX rfl ?_
                refine E.thenX ?_
                refine E.blkH ?_
                refine E.meet () (.cons rfl (.cons rfl (.cons rfl (.cons rfl (.cons rfl (.cons rfl (.cons rfl (.cons' rfl (int_eq (by rw [hqe])) (.nil _))))))))) ?_
                exact Ll
              · refine WC.skip ?_
                refine E.blkN ?_
                refine E.again (qh - 1, rh + a) (.cons rfl (.cons rfl (.cons rfl (.cons rfl (.cons rfl (.cons rfl (.cons rfl (.cons rfl (.cons rfl (.nil _)))))))))) ?_ ?_
                · exact ⟨Ll, hinv, by omega, by omega, by omega⟩
                · first | omega | (simp only []; omega)
            · have hqe : qh = Q2 := Nat.le_antisymm (by rw [hQ2]; exact dig_le hY (by omega) hi (by omega)) hq
              refine WC.exit ?_
              refine E.thenX ?_
              refine E.thenX ?_
              refine E.blkH ?_
              refine E.meet () (.cons rfl (.cons rfl (.cons rfl (.cons rfl (.cons rfl (.cons rfl (.cons rfl (.cons' rfl (int_eq (by rw [hqe])) (.nil _))))))))) ?_
              exact Ll
      · rintro ⟨⟩ wc18 Lc18
        refine WC.seq ?_
        refine WC.region ?_
        refine W.any (.move rfl) rfl rfl rfl ?_
        refine W.any (.mulN (Q1) (4294967296) (Q1 * 4294967296 % 18446744073709551616) rfl rfl rfl rfl (rfl)) rfl rfl rfl ?_
        refine W.any (.move rfl) rfl rfl rfl ?_
        refine W.any (.addN (Q1 * 4294967296 % 18446744073709551616) (Q2) ((Q1 * 4294967296 % 18446744073709551616 + Q2) % 18446744073709551616) rfl rfl rfl rfl (rfl)) rfl rfl rfl ?_
        refine W.any (.move rfl) rfl rfl rfl ?_
        refine W.any (.mulN (R) (4294967296) (R * 4294967296 % 18446744073709551616) rfl rfl rfl rfl (rfl)) rfl rfl rfl ?_
        refine W.any (.move rfl) rfl rfl rfl ?_
        refine W.any (.addN (R * 4294967296 % 18446744073709551616) (e0) ((R * 4294967296 + e0) % 18446744073709551616) rfl rfl rfl rfl (by rw [Nat.mod_add_mod])) rfl rfl rfl ?_
        refine W.any (.move rfl) rfl rfl rfl ?_
        refine W.any (.move rfl) rfl rfl rfl ?_
        refine W.any (.mulN (Q2) (Y) (Q2 * Y % 18446744073709551616) rfl rfl rfl rfl (rfl)) rfl rfl rfl ?_
        refine W.any (.subN ((R * 4294967296 + e0) % 18446744073709551616) (Q2 * Y % 18446744073709551616) ((R * 4294967296 + e0) % Y) rfl rfl rfl rfl (Nat.le_of_lt (Nat.mod_lt _ (by decide))) (dig_rest Y _ _ hQ2 (by omega) (by omega))) rfl rfl rfl ?_
        refine W.any (.move rfl) rfl rfl rfl ?_
        refine W.any (.shrE ((R * 4294967296 + e0) % Y) (2) ((h * 18446744073709551616 + l) % y) rfl rfl rfl rfl (by decide) (hfin)) rfl rfl rfl ?_
        refine W.any (.assign rfl) rfl rfl rfl ?_
        refine W.any (.assign rfl) rfl rfl rfl ?_
        refine W.nil ?_
        refine E.thenN ?_
        refine WC.ret ?_
        refine E.ret2 rfl rfl rfl ?_
        exact ⟨_, rfl, Lc18⟩

theorem div64_ok3 (h l y : Nat) (h1 : 1152921504606846976 ≤ y) (h2 : y < 2305843009213693952) (hh : h < y) (hl : l < 18446744073709551616) (w : World) : Calls Try.prog 158 #[.int .u64 ((h : Nat) : Int), .int .u64 ((l : Nat) : Int), .int .u64 ((y : Nat) : Int)] w fun e w' => ∃ qq : Int, e = .returned (.tuple #[.int .u64 qq, .int .u64 (((h * 18446744073709551616 + l) % y : Nat) : Int)]) ∧ Le w w' := by
  obtain ⟨Y, hYd⟩ : ∃ Y, Y = y * 8 := ⟨_, rfl⟩
  obtain ⟨a, ha⟩ : ∃ a, a = Y / 4294967296 := ⟨_, rfl⟩
  obtain ⟨b, hb0⟩ : ∃ b, b = Y % 4294967296 := ⟨_, rfl⟩
  obtain ⟨U, hUd⟩ : ∃ U, U = h * 8 + l / 2305843009213693952 := ⟨_, rfl⟩
  obtain ⟨v, hv⟩ : ∃ v, v = l * 8 % 18446744073709551616 := ⟨_, rfl⟩
  obtain ⟨e1, he1⟩ : ∃ e1, e1 = v / 4294967296 := ⟨_, rfl⟩
  obtain ⟨e0, he0⟩ : ∃ e0, e0 = v % 4294967296 := ⟨_, rfl⟩
  have hY : Y = a * 4294967296 + b := by omega
  have hYlo : 9223372036854775808 ≤ Y := by omega
  have hYhi : Y < 18446744073709551616 := by omega
  have ha1 : 2147483648 ≤ a := by omega
  have ha2 : a < 4294967296 := by omega
  have hb1 : b < 4294967296 := by omega
  have hv2 : v < 18446744073709551616 := by omega
  have he12 : e1 < 4294967296 := by omega
  have he02 : e0 < 4294967296 := by omega
  have hU : U < Y := by omega
  obtain ⟨R, hR⟩ : ∃ R, R = (U * 4294967296 + e1) % Y := ⟨_, rfl⟩
  obtain ⟨Q1, hQ1⟩ : ∃ Q1, Q1 = (U * 4294967296 + e1) / Y := ⟨_, rfl⟩
  obtain ⟨Q2, hQ2⟩ : ∃ Q2, Q2 = (R * 4294967296 + e0) / Y := ⟨_, rfl⟩
  have hRY : R < Y := by rw [hR]; exact Nat.mod_lt _ (by omega)
  have hfin : (R * 4294967296 + e0) % Y / 2 ^ 3 = (h * 18446744073709551616 + l) % y := div_fin3 h l y Y U v e1 e0 R hYd hUd hv he1 he0 hR (by omega)
  have hlz : ∀ w, Calls Try.prog 181 #[.int .u64 ((y : Nat) : Int)] w (fun e w' => e = .returned (.int .i64 3) ∧ Le w w') := fun w => by
    have := lz64_ok y (by omega) (by omega) w
    rw [if_pos (by omega)] at this
    exact this
  refine enter Try.func158 rfl rfl ?_
  have L0 := Le.refl w
  refine WC.seq ?_
  refine WC.region ?_
  refine W.any (.assign rfl) rfl rfl rfl ?_
  refine W.any (.assign rfl) rfl rfl rfl ?_
  refine W.nil ?_
  refine E.thenN ?_
  refine WC.seq ?_
  refine WC.seq ?_
  refine WC.region ?_
  refine W.any (.move rfl) rfl rfl rfl ?_
  refine W.any (.eql rfl rfl) rfl rfl rfl ?_
  refine W.nil ?_
  refine E.thenN ?_
  refine WC.condB rfl (fun h => absurd h (by simp; omega)) (fun _ => ?_)
  refine WC.skip ?_
  refine E.thenN ?_
  refine WC.seq ?_
  refine WC.seq ?_
  refine WC.region ?_
  refine W.any (.move rfl) rfl rfl rfl ?_
  refine W.any (.move rfl) rfl rfl rfl ?_
  refine W.any (.leq rfl rfl) rfl rfl rfl ?_
  refine W.nil ?_
  refine E.thenN ?_
  refine WC.condB rfl (fun h => absurd h (by simp; omega)) (fun _ => ?_)
  refine WC.skip ?_
  refine E.thenN ?_
  refine WC.seq ?_
  refine WC.seq ?_
  refine WC.region ?_
  refine W.any (.move rfl) rfl rfl rfl ?_
  refine W.any (.eql rfl rfl) rfl rfl rfl ?_
  refine W.nil ?_
  refine E.thenN ?_
  refine WC.cond rfl (fun c2 => ?_) (fun c2 => ?_)
  · have h0 : h = 0 := by omega
    subst h0
    refine WC.seq ?_
    refine WC.draw [0, 1, 2, 3, 4, 5, 6, 7] mixed (by kernel_rfl) ?_
    intro w6 d6
    have L6 := L0.trans d6
    refine G.any rfl rfl (.move rfl) rfl rfl rfl ?_
    refine G.any rfl rfl (.move rfl) rfl rfl rfl ?_
    refine G.any rfl rfl (.quoN (l) (y) (l / y) rfl rfl rfl rfl (by omega) (by omega) (rfl)) rfl rfl rfl ?_
    refine G.any rfl rfl (.move rfl) rfl rfl rfl ?_
    refine G.any rfl rfl (.move rfl) rfl rfl rfl ?_
    refine G.any rfl rfl (.remN (l) (y) (l % y) rfl rfl rfl rfl (by omega) (rfl)) rfl rfl rfl ?_
    refine G.any rfl rfl (.assign rfl) rfl rfl rfl ?_
    refine G.any rfl rfl (.assign rfl) rfl rfl rfl ?_
    refine G.nil ?_
    refine E.thenN ?_
    refine WC.ret ?_
    refine E.thenR ?_
    refine E.ret2 rfl rfl rfl ?_
    exact ⟨_, by rw [Nat.zero_mul, Nat.zero_add], L6⟩
  · refine WC.skip ?_
    refine E.thenN ?_
    refine WC.seq ?_
    refine WC.region ?_
    refine W.any (.move rfl) rfl rfl rfl ?_
    refine W.ef rfl rfl rfl ?_
    refine Ef.call go181 rfl rfl (hlz w) ?_
    rintro _ w7_1 ⟨rfl, h7_1⟩
    refine ⟨_, rfl, ?_⟩
    have L7_1 := L0.trans h7_1
    refine W.rd (.idI (isS Try.underlying3) Try.underlying213 rfl (IntWalk.u64_in _ (by decide))) rfl rfl rfl ?_
    refine W.any (.assign rfl) rfl rfl rfl ?_
    refine W.nil ?_
    refine E.thenN ?_
    refine WC.seq ?_
    refine WC.region ?_
    refine W.any (.move rfl) rfl rfl rfl ?_
    refine W.any (.move rfl) rfl rfl rfl ?_
    refine W.any (.shlN (y) (3) (Y) rfl rfl rfl rfl (by decide) (by omega)) rfl rfl rfl ?_
    refine W.any (.assign rfl) rfl rfl rfl ?_
    refine W.nil ?_
    refine E.thenN ?_
    refine WC.seq ?_
    refine WC.region ?_
    refine W.any (.move rfl) rfl rfl rfl ?_
    refine W.any (.shrE (Y) (32) (a) rfl rfl rfl rfl (by decide) (by omega)) rfl rfl rfl ?_
    refine W.any (.assign rfl) rfl rfl rfl ?_
    refine W.nil ?_
    refine E.thenN ?_
    refine WC.seq ?_
    refine WC.region ?_
    refine W.any (.move rfl) rfl rfl rfl ?_
    refine W.any (.andE (Y) (4294967295) (b) rfl rfl rfl rfl (by omega) (by omega) ((mask32 _).trans hb0.symm)) rfl rfl rfl ?_
    refine W.any (.assign rfl) rfl rfl rfl ?_
    refine W.nil ?_
    refine E.thenN ?_
    refine WC.seq ?_
    refine WC.region ?_
    refine W.any (.move rfl) rfl rfl rfl ?_
    refine W.any (.move rfl) rfl rfl rfl ?_
    refine W.any (.shlN (h) (3) (h * 8) rfl rfl rfl rfl (by decide) (by omega)) rfl rfl rfl ?_
    refine W.any (.move rfl) rfl rfl rfl ?_
    refine W.any (.move rfl) rfl rfl rfl ?_
    refine W.any (.subN (64) (3) (61) rfl rfl rfl rfl (by decide) (by decide)) rfl rfl rfl ?_
    refine W.any (.shrE (l) (61) (l / 2305843009213693952) rfl rfl rfl rfl (by decide) (rfl)) rfl rfl rfl ?_
    refine W.any (.orE (h * 8) (l / 2305843009213693952) (U) rfl rfl rfl rfl (by omega) (by omega) (by rw [hUd, Nat.mul_comm h, show (8 : Nat) = 2 ^ 3 by decide]; exact (Nat.two_pow_add_eq_or_of_lt (by omega) _).symm)) rfl rfl rfl ?_
    refine W.any (.assign rfl) rfl rfl rfl ?_
    refine W.nil ?_
    refine E.thenN ?_
    refine WC.seq ?_
    refine WC.region ?_
    refine W.any (.move rfl) rfl rfl rfl ?_
    refine W.any (.move rfl) rfl rfl rfl ?_
    refine W.any (.shlN (l) (3) (v) rfl rfl rfl rfl (by decide) (hv.symm)) rfl rfl rfl ?_
    refine W.any (.assign rfl) rfl rfl rfl ?_
    refine W.nil ?_
    refine E.thenN ?_
    refine WC.seq ?_
    refine WC.region ?_
    refine W.any (.move rfl) rfl rfl rfl ?_
    refine W.any (.shrE (v) (32) (e1) rfl rfl rfl rfl (by decide) (by omega)) rfl rfl rfl ?_
    refine W.any (.assign rfl) rfl rfl rfl ?_
    refine W.nil ?_
    refine E.thenN ?_
    refine WC.seq ?_
    refine WC.region ?_
    refine W.any (.move rfl) rfl rfl rfl ?_
    refine W.any (.andE (v) (4294967295) (e0) rfl rfl rfl rfl (by omega) (by omega) ((mask32 _).trans he0.symm)) rfl rfl rfl ?_
    refine W.any (.assign rfl) rfl rfl rfl ?_
    refine W.nil ?_
    refine E.thenN ?_
    refine WC.seq ?_
    refine WC.region ?_
    refine W.any (.move rfl) rfl rfl rfl ?_
    refine W.any (.move rfl) rfl rfl rfl ?_
    refine W.any (.quoN (U) (a) (U / a) rfl rfl rfl rfl (by omega) (by omega) (rfl)) rfl rfl rfl ?_
    refine W.any (.assign rfl) rfl rfl rfl ?_
    refine W.nil ?_
    refine E.thenN ?_
    refine WC.seq ?_
    refine WC.region ?_
    refine W.any (.move rfl) rfl rfl rfl ?_
    refine W.any (.move rfl) rfl rfl rfl ?_
    refine W.any (.move rfl) rfl rfl rfl ?_
    refine W.any (.mulN (U / a) (a) (U / a * a) rfl rfl rfl rfl (Nat.mod_eq_of_lt (Nat.lt_of_le_of_lt (Nat.div_mul_le_self _ _) (by omega)))) rfl rfl rfl ?_
    refine W.any (.subN (U) (U / a * a) (U % a) rfl rfl rfl rfl (Nat.le_trans (Nat.div_mul_le_self _ _) (by omega)) (sub_div U a (by omega))) rfl rfl rfl ?_
    refine W.any (.assign rfl) rfl rfl rfl ?_
    refine W.nil ?_
    refine E.thenN ?_
    refine WC.cut (ι := Unit) (fun () => [(2, .int .u64 ((Y : Nat) : Int)), (8, .int .u64 (3 : Int)), (9, .int .u64 ((a : Nat) : Int)), (10, .int .u64 ((b : Nat) : Int)), (11, .int .u64 ((U : Nat) : Int)), (13, .int .u64 ((e1 : Nat) : Int)), (14, .int .u64 ((e0 : Nat) : Int)), (15, .int .u64 ((Q1 : Nat) : Int))]) (fun () wc15 => Le w wc15) ?_ ?_
    · refine WC.block ?_
      refine WC.loop (ι := Nat × Nat) (fun ⟨qh, rh⟩ => [(2, .int .u64 ((Y : Nat) : Int)), (8, .int .u64 (3 : Int)), (9, .int .u64 ((a : Nat) : Int)), (10, .int .u64 ((b : Nat) : Int)), (11, .int .u64 ((U : Nat) : Int)), (13, .int .u64 ((e1 : Nat) : Int)), (14, .int .u64 ((e0 : Nat) : Int)), (15, .int .u64 ((qh : Nat) : Int)), (16, .int .u64 ((rh : Nat) : Int))]) (fun ⟨qh, rh⟩ wl => Le w wl ∧ qh * a + rh = U ∧ Q1 ≤ qh ∧ rh < 4294967296 ∧ qh ≤ 4294967297) (fun ⟨qh, rh⟩ => qh) (U / a, U % a) ?_ ?_ ?_
      · exact .cons rfl (.cons rfl (.cons rfl (.cons rfl (.cons rfl (.cons rfl (.cons rfl (.cons rfl (.cons rfl (.nil _)))))))))
      · exact ⟨L7_1, by rw [Nat.mul_comm]; exact Nat.div_add_mod _ _, by rw [hQ1]; exact dig_start hY (by omega) hU (by omega), Nat.lt_of_lt_of_le (Nat.mod_lt _ (by omega)) (by omega), dig_first hY (by omega) (by omega) hU⟩
      · rintro ⟨qh, rh⟩ wl ⟨Ll, hi, hq, hr, hq2⟩
        refine WC.seq ?_
        refine WC.seq ?_
        refine WC.region ?_
        refine W.any (.move rfl) rfl rfl rfl ?_
        refine W.any (.geq rfl rfl) rfl rfl rfl ?_
        by_cases hb : 4294967296 ≤ qh
        · refine W.any (.move rfl) rfl rfl rfl ?_
          refine W.skip rfl rfl rfl (decide_eq_true (by omega)) rfl rfl ?_
          refine W.skip rfl rfl rfl (decide_eq_true (by omega)) rfl rfl ?_
          refine W.skip rfl rfl rfl (decide_eq_true (by omega)) rfl rfl ?_
          refine W.skip rfl rfl rfl (decide_eq_true (by omega)) rfl rfl ?_
          refine W.skip rfl rfl rfl (decide_eq_true (by omega)) rfl rfl ?_
          refine W.skip rfl rfl rfl (decide_eq_true (by omega)) rfl rfl ?_
          refine W.skip rfl rfl rfl (decide_eq_true (by omega)) rfl rfl ?_
          refine W.skip rfl rfl rfl (decide_eq_true (by omega)) rfl rfl ?_
          refine W.any (.pickT rfl (decide_eq_true (by omega)) rfl) rfl rfl rfl ?_
          have hgt : Q1 < qh := by rw [hQ1]; exact dig_gt hY hU (by omega) hi (by omega)
          have hd : qh * a = (qh - 1) * a + a := by rw [← Nat.succ_mul]; congr 1; omega
          have hinv : (qh - 1) * a + (rh + a) = U := by omega
          refine W.nil ?_
          refine E.thenN ?_
          refine WC.condT rfl ?_
          refine WC.skip ?_
          refine E.thenN ?_
          refine WC.block ?_
          refine WC.seq ?_
          refine WC.region ?_
          refine W.any (.move rfl) rfl rfl rfl ?_
          refine W.any (.subN (qh) (1) (qh - 1) rfl rfl rfl rfl (by omega) (by omega)) rfl rfl rfl ?_
          refine W.any (.assign rfl) rfl rfl rfl ?_
          refine W.nil ?_
          refine E.thenN ?_
          refine WC.seq ?_
          refine WC.region ?_
          refine W.any (.move rfl) rfl rfl rfl ?_
          refine W.any (.move rfl) rfl rfl rfl ?_
          refine W.any (.addN (rh) (a) (rh + a) rfl rfl rfl rfl (by omega)) rfl rfl rfl ?_
          refine W.any (.assign rfl) rfl rfl rfl ?_
          refine W.nil ?_
          refine E.thenN ?_
          refine WC.seq ?_
          refine WC.region ?_
          refine W.any (.move rfl) rfl rfl rfl ?_
          refine W.any (.geq rfl rfl) rfl rfl rfl ?_
          refine W.nil ?_
          refine E.thenN ?_
          refine WC.cond rfl (fun c4 => ?_) (fun c4 => ?_)
          · have hqe : qh - 1 = Q1 := Nat.le_antisymm (by rw [hQ1]; exact dig_brk hY (by omega) hb1 hinv (by omega) (by omega)) (by omega)
            refine WC.exit ?_
            refine E.blkX rfl ?_
            refine E.thenX ?_
            refine E.blkH ?_
            refine E.meet () (.cons rfl (.cons rfl (.cons rfl (.cons rfl (.cons rfl (.cons rfl (.cons rfl (.cons' rfl (int_eq (by rw [hqe])) (.nil _))))))))) ?_
            exact Ll
          · refine WC.skip ?_
            refine E.blkN ?_
            refine E.again (qh - 1, rh + a) (.cons rfl (.cons rfl (.cons rfl (.cons rfl (.cons rfl (.cons rfl (.cons rfl (.cons rfl (.cons rfl (.nil _)))))))))) ?_ ?_
            · exact ⟨Ll, hinv, by omega, by omega, by omega⟩
            · first | omega | (simp only []; omega)
        · refine W.any (.move rfl) rfl rfl rfl ?_
          refine W.rdg (Any.rd (.move rfl) _) rfl rfl rfl (decide_eq_false (by omega)) rfl rfl ?_
          refine W.rdg (Any.rd (.move rfl) _) rfl rfl rfl (decide_eq_false (by omega)) rfl rfl ?_
          have hqb : qh * b < 18446744073709551616 := Nat.lt_of_le_of_lt (Nat.mul_le_mul (show qh ≤ 4294967295 by omega) (show b ≤ 4294967295 by omega)) (by decide)
          refine W.rdg (Any.rd (.mulN (qh) (b) (qh * b) rfl rfl rfl rfl (Nat.mod_eq_of_lt hqb)) _) rfl rfl rfl (decide_eq_false (by omega)) rfl rfl ?_
          refine W.rdg (Any.rd (.move rfl) _) rfl rfl rfl (decide_eq_false (by omega)) rfl rfl ?_
          refine W.rdg (Any.rd (.mulN (4294967296) (rh) (4294967296 * rh) rfl rfl rfl rfl (by omega)) _) rfl rfl rfl (decide_eq_false (by omega)) rfl rfl ?_
          refine W.rdg (Any.rd (.move rfl) _) rfl rfl rfl (decide_eq_false (by omega)) rfl rfl ?_
          refine W.rdg (Any.rd (.addN (4294967296 * rh) (e1) (4294967296 * rh + e1) rfl rfl rfl rfl (by omega)) _) rfl rfl rfl (decide_eq_false (by omega)) rfl rfl ?_
          refine W.rdg (Any.rd (.gtr rfl rfl) _) rfl rfl rfl (decide_eq_false (by omega)) rfl rfl ?_
          refine W.any (.pickF rfl (decide_eq_false (by omega)) rfl) rfl rfl rfl ?_
          refine W.nil ?_
          refine E.thenN ?_
          refine WC.cond rfl (fun c3 => ?_) (fun c3 => ?_)
          · have hgt : Q1 < qh := by rw [hQ1]; exact dig_gt hY hU (by omega) hi (by omega)
            have hd : qh * a = (qh - 1) * a + a := by rw [← Nat.succ_mul]; congr 1; omega
            have hinv : (qh - 1) * a + (rh + a) = U := by omega
            refine WC.skip ?_
            refine E.thenN ?_
            refine WC.block ?_
            refine WC.seq ?_
            refine WC.region ?_
            refine W.any (.move rfl) rfl rfl rfl ?_
            refine W.any (.subN (qh) (1) (qh - 1) rfl rfl rfl rfl (by omega) (by omega)) rfl rfl rfl ?_
            refine W.any (.assign rfl) rfl rfl rfl ?_
            refine W.nil ?_
            refine E.thenN ?_
            refine WC.seq ?_
            refine WC.region ?_
            refine W.any (.move rfl) rfl rfl rfl ?_
            refine W.any (.move rfl) rfl rfl rfl ?_
            refine W.any (.addN (rh) (a) (rh + a) rfl rfl rfl rfl (by omega)) rfl rfl rfl ?_
            refine W.any (.assign rfl) rfl rfl rfl ?_
            refine W.nil ?_
            refine E.thenN ?_
            refine WC.seq ?_
            refine WC.region ?_
            refine W.any (.move rfl) rfl rfl rfl ?_
            refine W.any (.geq rfl rfl) rfl rfl rfl ?_
            refine W.nil ?_
            refine E.thenN ?_
            refine WC.cond rfl (fun c4 => ?_) (fun c4 => ?_)
            · have hqe : qh - 1 = Q1 := Nat.le_antisymm (by rw [hQ1]; exact dig_brk hY (by omega) hb1 hinv (by omega) (by omega)) (by omega)
              refine WC.exit ?_
              refine E.blkX rfl ?_
              refine E.thenX ?_
              refine E.blkH ?_
              refine E.meet () (.cons rfl (.cons rfl (.cons rfl (.cons rfl (.cons rfl (.cons rfl (.cons rfl (.cons' rfl (int_eq (by rw [hqe])) (.nil _))))))))) ?_
              exact Ll
            · refine WC.skip ?_
              refine E.blkN ?_
              refine E.again (qh - 1, rh + a) (.cons rfl (.cons rfl (.cons rfl (.cons rfl (.cons rfl (.cons rfl (.cons rfl (.cons rfl (.cons rfl (.nil _)))))))))) ?_ ?_
              · exact ⟨Ll, hinv, by omega, by omega, by omega⟩
              · first | omega | (simp only []; omega)
          · have hqe : qh = Q1 := Nat.le_antisymm (by rw [hQ1]; exact dig_le hY (by omega) hi (by omega)) hq
            refine WC.exit ?_
            refine E.thenX ?_
            refine E.thenX ?_
            refine E.blkH ?_
            refine E.meet () (.cons rfl (.cons rfl (.cons rfl (.cons rfl (.cons rfl (.cons rfl (.cons rfl (.cons' rfl (int_eq (by rw [hqe])) (.nil _))))))))) ?_
            exact Ll
    · rintro ⟨⟩ wc15 Lc15
      refine WC.seq ?_
      refine WC.region ?_
      refine W.any (.move rfl) rfl rfl rfl ?_
      refine W.any (.mulN (U) (4294967296) (U * 4294967296 % 18446744073709551616) rfl rfl rfl rfl (rfl)) rfl rfl rfl ?_
      refine W.any (.move rfl) rfl rfl rfl ?_
      refine W.any (.addN (U * 4294967296 % 18446744073709551616) (e1) ((U * 4294967296 + e1) % 18446744073709551616) rfl rfl rfl rfl (by rw [Nat.mod_add_mod])) rfl rfl rfl ?_
      refine W.any (.move rfl) rfl rfl rfl ?_
      refine W.any (.move rfl) rfl rfl rfl ?_
      refine W.any (.mulN (Q1) (Y) (Q1 * Y % 18446744073709551616) rfl rfl rfl rfl (rfl)) rfl rfl rfl ?_
      refine W.any (.subN ((U * 4294967296 + e1) % 18446744073709551616) (Q1 * Y % 18446744073709551616) (R) rfl rfl rfl rfl (Nat.le_of_lt (Nat.mod_lt _ (by decide))) ((dig_rest Y _ _ hQ1 (by omega) (by omega)).trans hR.symm)) rfl rfl rfl ?_
      refine W.any (.assign rfl) rfl rfl rfl ?_
      refine W.nil ?_
      refine E.thenN ?_
      refine WC.seq ?_
      refine WC.region ?_
      refine W.any (.move rfl) rfl rfl rfl ?_
      refine W.any (.move rfl) rfl rfl rfl ?_
      refine W.any (.quoN (R) (a) (R / a) rfl rfl rfl rfl (by omega) (by omega) (rfl)) rfl rfl rfl ?_
      refine W.any (.assign rfl) rfl rfl rfl ?_
      refine W.nil ?_
      refine E.thenN ?_
      refine WC.seq ?_
      refine WC.region ?_
      refine W.any (.move rfl) rfl rfl rfl ?_
      refine W.any (.move rfl) rfl rfl rfl ?_
      refine W.any (.move rfl) rfl rfl rfl ?_
      refine W.any (.mulN (R / a) (a) (R / a * a) rfl rfl rfl rfl (Nat.mod_eq_of_lt (Nat.lt_of_le_of_lt (Nat.div_mul_le_self _ _) (by omega)))) rfl rfl rfl ?_
      refine W.any (.subN (R) (R / a * a) (R % a) rfl rfl rfl rfl (Nat.le_trans (Nat.div_mul_le_self _ _) (by omega)) (sub_div R a (by omega))) rfl rfl rfl ?_
      refine W.any (.assign rfl) rfl rfl rfl ?_
      refine W.nil ?_
      refine E.thenN ?_
      refine WC.cut (ι := Unit) (fun () => [(2, .int .u64 ((Y : Nat) : Int)), (8, .int .u64 (3 : Int)), (9, .int .u64 ((a : Nat) : Int)), (10, .int .u64 ((b : Nat) : Int)), (14, .int .u64 ((e0 : Nat) : Int)), (17, .int .u64 ((R : Nat) : Int)), (15, .int .u64 ((Q1 : Nat) : Int)), (18, .int .u64 ((Q2 : Nat) : Int))]) (fun () wc18 => Le w wc18) ?_ ?_
      · refine WC.block ?_
        refine WC.loop (ι := Nat × Nat) (fun ⟨qh, rh⟩ => [(2, .int .u64 ((Y : Nat) : Int)), (8, .int .u64 (3 : Int)), (9, .int .u64 ((a : Nat) : Int)), (10, .int .u64 ((b : Nat) : Int)), (14, .int .u64 ((e0 : Nat) : Int)), (17, .int .u64 ((R : Nat) : Int)), (15, .int .u64 ((Q1 : Nat) : Int)), (18, .int .u64 ((qh : Nat) : Int)), (16, .int .u64 ((rh : Nat) : Int))]) (fun ⟨qh, rh⟩ wl => Le w wl ∧ qh * a + rh = R ∧ Q2 ≤ qh ∧ rh < 4294967296 ∧ qh ≤ 4294967297) (fun ⟨qh, rh⟩ => qh) (R / a, R % a) ?_ ?_ ?_
        · exact .cons rfl (.cons rfl (.cons rfl (.cons rfl (.cons rfl (.cons rfl (.cons rfl (.cons rfl (.cons rfl (.nil _)))))))))
        · exact ⟨Lc15, by rw [Nat.mul_comm]; exact Nat.div_add_mod _ _, by rw [hQ2]; exact dig_start hY (by omega) hRY (by omega), Nat.lt_of_lt_of_le (Nat.mod_lt _ (by omega)) (by omega), dig_first hY (by omega) (by omega) hRY⟩
        · rintro ⟨qh, rh⟩ wl ⟨Ll, hi, hq, hr, hq2⟩
          refine WC.seq ?_
          refine WC.seq ?_
          refine WC.region ?_
          refine W.any (.move rfl) rfl rfl rfl ?_
          refine W.any (.geq rfl rfl) rfl rfl rfl ?_
          by_cases hb : 4294967296 ≤ qh
          · refine W.any (.move rfl) rfl rfl rfl ?_
            refine W.skip rfl rfl rfl (decide_eq_true (by omega)) rfl rfl ?_
            refine W.skip rfl rfl rfl (decide_eq_true (by omega)) rfl rfl ?_
            refine W.skip rfl rfl rfl (decide_eq_true (by omega)) rfl rfl ?_
            refine W.skip rfl rfl rfl (decide_eq_true (by omega)) rfl rfl ?_
            refine W.skip rfl rfl rfl (decide_eq_true (by omega)) rfl rfl ?_
            refine W.skip rfl rfl rfl (decide_eq_true (by omega)) rfl rfl ?_
            refine W.skip rfl rfl rfl (decide_eq_true (by omega)) rfl rfl ?_
            refine W.skip rfl rfl rfl (decide_eq_true (by omega)) rfl rfl ?_
            refine W.any (.pickT rfl (decide_eq_true (by omega)) rfl) rfl rfl rfl ?_
            have hgt : Q2 < qh := by rw [hQ2]; exact dig_gt hY hRY (by omega) hi (by omega)
            have hd : qh * a = (qh - 1) * a + a := by rw [← Nat.succ_mul]; congr 1; omega
            have hinv : (qh - 1) * a + (rh + a) = R := by omega
            refine W.nil ?_
            refine E.thenN ?_
            refine WC.condT rfl ?_
            refine WC.skip ?_
            refine E.thenN ?_
            refine WC.block ?_
            refine WC.seq ?_
            refine WC.region ?_
            refine W.any (.move rfl) rfl rfl rfl ?_
            refine W.any (.subN (qh) (1) (qh - 1) rfl rfl rfl rfl (by omega) (by omega)) rfl rfl rfl ?_
            refine W.any (.assign rfl) rfl rfl rfl ?_
            refine W.nil ?_
            refine E.thenN ?_
            refine WC.seq ?_
            refine WC.region ?_
            refine W.any (.move rfl) rfl rfl rfl ?_
            refine W.any (.move rfl) rfl rfl rfl ?_
            refine W.any (.addN (rh) (a) (rh + a) rfl rfl rfl rfl (by omega)) rfl rfl rfl ?_
            refine W.any (.assign rfl) rfl rfl rfl ?_
            refine W.nil ?_
            refine E.thenN ?_
            refine WC.seq ?_
            refine WC.region ?_
            refine W.any (.move rfl) rfl rfl rfl ?_
            refine W.any (.geq rfl rfl) rfl rfl rfl ?_
            refine W.nil ?_
            refine E.thenN ?_
            refine WC.cond rfl (fun c6 => ?_) (fun c6 => ?_)
            · have hqe : qh - 1 = Q2 := Nat.le_antisymm (by rw [hQ2]; exact dig_brk hY (by omega) hb1 hinv (by omega) (by omega)) (by omega)
              refine WC.exit ?_
              refine E.blkX rfl ?_
              refine E.thenX ?_
              refine E.blkH ?_
              refine E.meet () (.cons rfl (.cons rfl (.cons rfl (.cons rfl (.cons rfl (.cons rfl (.cons rfl (.cons' rfl (int_eq (by rw [hqe])) (.nil _))))))))) ?_
              exact Ll
            · refine WC.skip ?_
              refine E.blkN ?_
              refine E.again (qh - 1, rh + a) (.cons rfl (.cons rfl (.cons rfl (.cons rfl (.cons rfl (.cons rfl (.cons rfl (.cons rfl (.cons rfl (.nil _)))))))))) ?_ ?_
              · exact ⟨Ll, hinv, by omega, by omega, by omega⟩
              · first | omega | (simp only []; omega)
          · refine W.any (.move rfl) rfl rfl rfl ?_
            refine W.rdg (Any.rd (.move rfl) _) rfl rfl rfl (decide_eq_false (by omega)) rfl rfl ?_
            refine W.rdg (Any.rd (.move rfl) _) rfl rfl rfl (decide_eq_false (by omega)) rfl rfl ?_
            have hqb : qh * b < 18446744073709551616 := Nat.lt_of_le_of_lt (Nat.mul_le_mul (show qh ≤ 4294967295 by omega) (show b ≤ 4294967295 by omega)) (by decide)
            refine W.rdg (Any.rd (.mulN (qh) (b) (qh * b) rfl rfl rfl rfl (Nat.mod_eq_of_lt hqb)) _) rfl rfl rfl (decide_eq_false (by omega)) rfl rfl ?_
            refine W.rdg (Any.rd (.move rfl) _) rfl rfl rfl (decide_eq_false (by omega)) rfl rfl ?_
            refine W.rdg (Any.rd (.mulN (4294967296) (rh) (4294967296 * rh) rfl rfl rfl rfl (by omega)) _) rfl rfl rfl (decide_eq_false (by omega)) rfl rfl ?_
            refine W.rdg (Any.rd (.move rfl) _) rfl rfl rfl (decide_eq_false (by omega)) rfl rfl ?_
            refine W.rdg (Any.rd (.addN (4294967296 * rh) (e0) (4294967296 * rh + e0) rfl rfl rfl rfl (by omega)) _) rfl rfl rfl (decide_eq_false (by omega)) rfl rfl ?_
            refine W.rdg (Any.rd (.gtr rfl rfl) _) rfl rfl rfl (decide_eq_false (by omega)) rfl rfl ?_
            refine W.any (.pickF rfl (decide_eq_false (by omega)) rfl) rfl rfl rfl ?_
            refine W.nil ?_
            refine E.thenN ?_
            refine WC.cond rfl (fun c5 => ?_) (fun c5 => ?_)
            · have hgt : Q2 < qh := by rw [hQ2]; exact dig_gt hY hRY (by omega) hi (by omega)
              have hd : qh * a = (qh - 1) * a + a := by rw [← Nat.succ_mul]; congr 1; omega
              have hinv : (qh - 1) * a + (rh + a) = R := by omega
              refine WC.skip ?_
              refine E.thenN ?_
              refine WC.block ?_
              refine WC.seq ?_
              refine WC.region ?_
              refine W.any (.move rfl) rfl rfl rfl ?_
              refine W.any (.subN (qh) (1) (qh - 1) rfl rfl rfl rfl (by omega) (by omega)) rfl rfl rfl ?_
              refine W.any (.assign rfl) rfl rfl rfl ?_
              refine W.nil ?_
              refine E.thenN ?_
              refine WC.seq ?_
              refine WC.region ?_
              refine W.any (.move rfl) rfl rfl rfl ?_
              refine W.any (.move rfl) rfl rfl rfl ?_
              refine W.any (.addN (rh) (a) (rh + a) rfl rfl rfl rfl (by omega)) rfl rfl rfl ?_
              refine W.any (.assign rfl) rfl rfl rfl ?_
              refine W.nil ?_
              refine E.thenN ?_
              refine WC.seq ?_
              refine WC.region ?_
              refine W.any (.move rfl) rfl rfl rfl ?_
              refine W.any (.geq rfl rfl) rfl rfl rfl ?_
              refine W.nil ?_
              refine E.thenN ?_
              refine WC.cond rfl (fun c6 => ?_) (fun c6 => ?_)
              · have hqe : qh - 1 = Q2 := Nat.le_antisymm (by rw [hQ2]; exact dig_brk hY (by omega) hb1 hinv (by omega) (by omega)) (by omega)
                refine WC.exit ?_
                refine E.blkX rfl ?_
                refine E.thenX ?_
                refine E.blkH ?_
                refine E.meet () (.cons rfl (.cons rfl (.cons rfl (.cons rfl (.cons rfl (.cons rfl (.cons rfl (.cons' rfl (int_eq (by rw [hqe])) (.nil _))))))))) ?_
                exact Ll
              · refine WC.skip ?_
                refine E.blkN ?_
                refine E.again (qh - 1, rh + a) (.cons rfl (.cons rfl (.cons rfl (.cons rfl (.cons rfl (.cons rfl (.cons rfl (.cons rfl (.cons rfl (.nil _)))))))))) ?_ ?_
                · exact ⟨Ll, hinv, by omega, by omega, by omega⟩
                · first | omega | (simp only []; omega)
            · have hqe : qh = Q2 := Nat.le_antisymm (by rw [hQ2]; exact dig_le hY (by omega) hi (by omega)) hq
              refine WC.exit ?_
              refine E.thenX ?_
              refine E.thenX ?_
              refine E.blkH ?_
              refine E.meet () (.cons rfl (.cons rfl (.cons rfl (.cons rfl (.cons rfl (.cons rfl (.cons rfl (.cons' rfl (int_eq (by rw [hqe])) (.nil _))))))))) ?_
              exact Ll
      · rintro ⟨⟩ wc18 Lc18
        refine WC.seq ?_
        refine WC.region ?_
        refine W.any (.move rfl) rfl rfl rfl ?_
        refine W.any (.mulN (Q1) (4294967296) (Q1 * 4294967296 % 18446744073709551616) rfl rfl rfl rfl (rfl)) rfl rfl rfl ?_
        refine W.any (.move rfl) rfl rfl rfl ?_
        refine W.any (.addN (Q1 * 4294967296 % 18446744073709551616) (Q2) ((Q1 * 4294967296 % 18446744073709551616 + Q2) % 18446744073709551616) rfl rfl rfl rfl (rfl)) rfl rfl rfl ?_
        refine W.any (.move rfl) rfl rfl rfl ?_
        refine W.any (.mulN (R) (4294967296) (R * 4294967296 % 18446744073709551616) rfl rfl rfl rfl (rfl)) rfl rfl rfl ?_
        refine W.any (.move rfl) rfl rfl rfl ?_
        refine W.any (.addN (R * 4294967296 % 18446744073709551616) (e0) ((R * 4294967296 + e0) % 18446744073709551616) rfl rfl rfl rfl (by rw [Nat.mod_add_mod])) rfl rfl rfl ?_
        refine W.any (.move rfl) rfl rfl rfl ?_
        refine W.any (.move rfl) rfl rfl rfl ?_
        refine W.any (.mulN (Q2) (Y) (Q2 * Y % 18446744073709551616) rfl rfl rfl rfl (rfl)) rfl rfl rfl ?_
        refine W.any (.subN ((R * 4294967296 + e0) % 18446744073709551616) (Q2 * Y % 18446744073709551616) ((R * 4294967296 + e0) % Y) rfl rfl rfl rfl (Nat.le_of_lt (Nat.mod_lt _ (by decide))) (dig_rest Y _ _ hQ2 (by omega) (by omega))) rfl rfl rfl ?_
        refine W.any (.move rfl) rfl rfl rfl ?_
        refine W.any (.shrE ((R * 4294967296 + e0) % Y) (3) ((h * 18446744073709551616 + l) % y) rfl rfl rfl rfl (by decide) (hfin)) rfl rfl rfl ?_
        refine W.any (.assign rfl) rfl rfl rfl ?_
        refine W.any (.assign rfl) rfl rfl rfl ?_
        refine W.nil ?_
        refine E.thenN ?_
        refine WC.ret ?_
        refine E.ret2 rfl rfl rfl ?_
        exact ⟨_, rfl, Lc18⟩

theorem rem64_ok (h l y : Nat) (h1 : 1152921504606846976 ≤ y) (h2 : y < 4611686018427387904) (hl : l < 18446744073709551616) (w : World) : Calls Try.prog 163 #[.int .u64 ((h : Nat) : Int), .int .u64 ((l : Nat) : Int), .int .u64 ((y : Nat) : Int)] w fun e w' => e = .returned (.int .u64 (((h * 18446744073709551616 + l) % y : Nat) : Int)) ∧ Le w w' := by
  have hd : ∀ w, Calls Try.prog 158 #[.int .u64 ((h % y : Nat) : Int), .int .u64 ((l : Nat) : Int), .int .u64 ((y : Nat) : Int)] w fun e w' => ∃ qq : Int, e = .returned (.tuple #[.int .u64 qq, .int .u64 (((h * 18446744073709551616 + l) % y : Nat) : Int)]) ∧ Le w w' := fun w => by
    rw [show (h * 18446744073709551616 + l) % y = (h % y * 18446744073709551616 + l) % y by rw [Nat.add_mod (h % y * _), Nat.mul_mod (h % y), Nat.mod_mod, ← Nat.mul_mod, ← Nat.add_mod]]
    by_cases hs : y < 2305843009213693952
    · exact div64_ok3 (h % y) l y (by omega) (by omega) (Nat.mod_lt _ (by omega)) hl w
    · exact div64_ok2 (h % y) l y (by omega) (by omega) (Nat.mod_lt _ (by omega)) hl w
  refine enter Try.func163 rfl rfl ?_
  have L0 := Le.refl w
  refine WC.seq ?_
  refine WC.region ?_
  refine W.any (.assign rfl) rfl rfl rfl ?_
  refine W.nil ?_
  refine E.thenN ?_
  refine WC.seq ?_
  refine WC.region ?_
  refine W.any (.move rfl) rfl rfl rfl ?_
  refine W.any (.move rfl) rfl rfl rfl ?_
  refine W.any (.remN (h) (y) (h % y) rfl rfl rfl rfl (by omega) (rfl)) rfl rfl rfl ?_
  refine W.any (.move rfl) rfl rfl rfl ?_
  refine W.any (.move rfl) rfl rfl rfl ?_
  refine W.ef rfl rfl rfl ?_
  refine Ef.call go158 rfl rfl (hd w) ?_
  rintro _ w1_5 ⟨qq, rfl, h1_5⟩
  refine ⟨_, rfl, ?_⟩
  have L1_5 := L0.trans h1_5
  refine W.any (.move rfl) rfl rfl rfl ?_
  refine W.any (.extract rfl rfl) rfl rfl rfl ?_
  refine W.any (.extract rfl rfl) rfl rfl rfl ?_
  refine W.any (.assign rfl) rfl rfl rfl ?_
  refine W.any (.assign rfl) rfl rfl rfl ?_
  refine W.nil ?_
  refine E.thenN ?_
  refine WC.seq ?_
  refine WC.region ?_
  refine W.any (.move rfl) rfl rfl rfl ?_
  refine W.any (.assign rfl) rfl rfl rfl ?_
  refine W.nil ?_
  refine E.thenN ?_
  refine WC.ret ?_
  refine E.ret1 rfl rfl ?_
  exact ⟨rfl, L1_5⟩
end Go.Proofs.Ytfgakofjkldcjaa

namespace Go.Proofs.Ytfgakofjkldcjaa
open Go Go.Sx Go.Num
set_option maxRecDepth 20000
theorem times_ok (a b : Nat) (ha : a < 18446744073709551616) (hb : b < 18446744073709551616) (w : World) : Calls Try.prog 162 #[.int .u64 ((a : Nat) : Int), .int .u64 ((b : Nat) : Int)] w fun e w' => e = .returned (.int .u64 ((a * b % M : Nat) : Int)) ∧ Le w w' := by
  refine enter Try.func162 rfl rfl ?_
  have L0 := Le.refl w
  refine WC.seq ?_
  refine WC.region ?_
  refine W.any (.assign rfl) rfl rfl rfl ?_
  refine W.nil ?_
  refine E.thenN ?_
  refine WC.seq ?_
  refine WC.region ?_
  refine W.any (.move rfl) rfl rfl rfl ?_
  refine W.any (.move rfl) rfl rfl rfl ?_
  refine W.ef rfl rfl rfl ?_
  refine Ef.call go157 rfl rfl (mul64_ok a b ha hb w) ?_
  rintro _ w1_2 ⟨rfl, h1_2⟩
  refine ⟨_, rfl, ?_⟩
  have L1_2 := L0.trans h1_2
  refine W.any (.move rfl) rfl rfl rfl ?_
  refine W.any (.extract rfl rfl) rfl rfl rfl ?_
  refine W.any (.extract rfl rfl) rfl rfl rfl ?_
  refine W.any (.assign rfl) rfl rfl rfl ?_
  refine W.any (.assign rfl) rfl rfl rfl ?_
  refine W.nil ?_
  refine E.thenN ?_
  refine WC.seq ?_
  refine WC.region ?_
  refine W.any (.move rfl) rfl rfl rfl ?_
  refine W.any (.move rfl) rfl rfl rfl ?_
  refine W.ef rfl rfl rfl ?_
  refine Ef.call go163 rfl rfl (rem64_ok (a * b / 18446744073709551616) (a * b % 18446744073709551616) 4611686018427377339 (by decide) (by decide) (Nat.mod_lt _ (by decide)) w1_2) ?_
  rintro _ w2_2 ⟨rfl, h2_2⟩
  refine ⟨_, rfl, ?_⟩
  have L2_2 := L1_2.trans h2_2
  refine W.any (.assign rfl) rfl rfl rfl ?_
  refine W.nil ?_
  refine E.thenN ?_
  refine WC.ret ?_
  refine E.ret1 rfl rfl ?_
  exact ⟨by rw [Nat.div_add_mod']; rfl, L2_2⟩

theorem ntimes_ok (a b : Nat) (ha : a < 18446744073709551616) (hb : b < 18446744073709551616) (w : World) : Calls Try.prog 165 #[.int .u64 ((a : Nat) : Int), .int .u64 ((b : Nat) : Int)] w fun e w' => e = .returned (.int .u64 ((a * b % q : Nat) : Int)) ∧ Le w w' := by
  refine enter Try.func165 rfl rfl ?_
  have L0 := Le.refl w
  refine WC.seq ?_
  refine WC.region ?_
  refine W.any (.assign rfl) rfl rfl rfl ?_
  refine W.nil ?_
  refine E.thenN ?_
  refine WC.seq ?_
  refine WC.region ?_
  refine W.any (.move rfl) rfl rfl rfl ?_
  refine W.any (.move rfl) rfl rfl rfl ?_
  refine W.ef rfl rfl rfl ?_
  refine Ef.call go157 rfl rfl (mul64_ok a b ha hb w) ?_
  rintro _ w1_2 ⟨rfl, h1_2⟩
  refine ⟨_, rfl, ?_⟩
  have L1_2 := L0.trans h1_2
  refine W.any (.move rfl) rfl rfl rfl ?_
  refine W.any (.extract rfl rfl) rfl rfl rfl ?_
  refine W.any (.extract rfl rfl) rfl rfl rfl ?_
  refine W.any (.assign rfl) rfl rfl rfl ?_
  refine W.any (.assign rfl) rfl rfl rfl ?_
  refine W.nil ?_
  refine E.thenN ?_
  refine WC.seq ?_
  refine WC.region ?_
  refine W.any (.move rfl) rfl rfl rfl ?_
  refine W.any (.move rfl) rfl rfl rfl ?_
  refine W.ef rfl rfl rfl ?_
  refine Ef.call go163 rfl rfl (rem64_ok (a * b / 18446744073709551616) (a * b % 18446744073709551616) 2305843009213688669 (by decide) (by decide) (Nat.mod_lt _ (by decide)) w1_2) ?_
  rintro _ w2_2 ⟨rfl, h2_2⟩
  refine ⟨_, rfl, ?_⟩
  have L2_2 := L1_2.trans h2_2
  refine W.any (.assign rfl) rfl rfl rfl ?_
  refine W.nil ?_
  refine E.thenN ?_
  refine WC.ret ?_
  refine E.ret1 rfl rfl ?_
  exact ⟨by rw [Nat.div_add_mod']; rfl, L2_2⟩

theorem power_ok (a n : Nat) (ha : a < 18446744073709551616) (hn : n < 18446744073709551616) (w : World) : Calls Try.prog 138 #[.int .u64 ((a : Nat) : Int), .int .u64 ((n : Nat) : Int)] w fun e w' => e = .returned (.int .u64 ((pw a n : Nat) : Int)) ∧ Le w w' := by
  refine enter Try.func138 rfl rfl ?_
  have L0 := Le.refl w
  refine WC.seq ?_
  refine WC.region ?_
  refine W.any (.assign rfl) rfl rfl rfl ?_
  refine W.nil ?_
  refine E.thenN ?_
  refine WC.seq ?_
  refine WC.region ?_
  refine W.any (.assign rfl) rfl rfl rfl ?_
  refine W.nil ?_
  refine E.thenN ?_
  refine WC.seq ?_
  refine WC.block ?_
  refine WC.loop (ι := Nat × Nat × Nat) (fun ⟨b, m, out⟩ => [(0, .int .u64 ((b : Nat) : Int)), (1, .int .u64 ((m : Nat) : Int)), (5, .int .u64 ((out : Nat) : Int))]) (fun ⟨b, m, out⟩ wl => Le w wl ∧ b < 18446744073709551616 ∧ m < 18446744073709551616 ∧ out < M ∧ out * b ^ m % M = pw a n) (fun ⟨b, m, out⟩ => m) (a, n, 1) ?_ ?_ ?_
  · exact .cons rfl (.cons rfl (.cons rfl (.nil _)))
  · exact ⟨L0, ha, hn, M_one, pw_start a n hn⟩
  · rintro ⟨b, m, out⟩ wl ⟨Ll, hb, hm, ho, hi⟩
    refine WC.seq ?_
    refine WC.seq ?_
    refine WC.region ?_
    refine W.any (.move rfl) rfl rfl rfl ?_
    refine W.any (.gtr rfl rfl) rfl rfl rfl ?_
    refine W.nil ?_
    refine E.thenN ?_
    refine WC.cond rfl (fun c0 => ?_) (fun c0 => ?_)
    · have hbb : b * b % M < 18446744073709551616 := Nat.lt_trans (Nat.mod_lt _ (by decide)) (by decide)
      have ho2 : out < 18446744073709551616 := Nat.lt_trans ho (by decide)
      refine WC.skip ?_
      refine E.thenN ?_
      refine WC.seq ?_
      refine WC.block ?_
      refine WC.seq ?_
      refine WC.seq ?_
      refine WC.region ?_
      refine W.any (.move rfl) rfl rfl rfl ?_
      refine W.any (.andE (m) (1) (m % 2) rfl rfl rfl rfl (by omega) (by omega) (mask1 _)) rfl rfl rfl ?_
      refine W.any (.eql rfl rfl) rfl rfl rfl ?_
      refine W.nil ?_
      refine E.thenN ?_
      refine WC.cond rfl (fun c1 => ?_) (fun c1 => ?_)
      · refine WC.region ?_
        refine W.any (.move rfl) rfl rfl rfl ?_
        refine W.any (.move rfl) rfl rfl rfl ?_
        refine W.ef rfl rfl rfl ?_
        refine Ef.call go162 rfl rfl (times_ok out b ho2 hb wl) ?_
        rintro _ w5_2 ⟨rfl, h5_2⟩
        refine ⟨_, rfl, ?_⟩
        have L5_2 := Ll.trans h5_2
        refine W.any (.assign rfl) rfl rfl rfl ?_
        refine W.nil ?_
        refine E.thenN ?_
        refine WC.region ?_
        refine W.any (.move rfl) rfl rfl rfl ?_
        refine W.any (.move rfl) rfl rfl rfl ?_
        refine W.ef rfl rfl rfl ?_
        refine Ef.call go162 rfl rfl (times_ok b b hb hb w5_2) ?_
        rintro _ w6_2 ⟨rfl, h6_2⟩
        refine ⟨_, rfl, ?_⟩
        have L6_2 := L5_2.trans h6_2
        refine W.any (.assign rfl) rfl rfl rfl ?_
        refine W.nil ?_
        refine E.blkN ?_
        refine E.thenN ?_
        refine WC.region ?_
        refine W.any (.move rfl) rfl rfl rfl ?_
        refine W.any (.shrE (m) (1) (m / 2) rfl rfl rfl rfl (by decide) (rfl)) rfl rfl rfl ?_
        refine W.any (.assign rfl) rfl rfl rfl ?_
        refine W.nil ?_
        refine E.again (b * b % M, m / 2, out * b % M) (.cons rfl (.cons rfl (.cons rfl (.nil _)))) ?_ ?_
        · exact ⟨L6_2, hbb, by omega, Nat.mod_lt _ (by decide), by rw [step1 b m out (by omega)]; exact hi⟩
        · first | omega | (simp only []; omega)
      · refine WC.skip ?_
        refine E.thenN ?_
        refine WC.region ?_
        refine W.any (.move rfl) rfl rfl rfl ?_
        refine W.any (.move rfl) rfl rfl rfl ?_
        refine W.ef rfl rfl rfl ?_
        refine Ef.call go162 rfl rfl (times_ok b b hb hb wl) ?_
        rintro _ w6_2 ⟨rfl, h6_2⟩
        refine ⟨_, rfl, ?_⟩
        have L6_2 := Ll.trans h6_2
        refine W.any (.assign rfl) rfl rfl rfl ?_
        refine W.nil ?_
        refine E.blkN ?_
        refine E.thenN ?_
        refine WC.region ?_
        refine W.any (.move rfl) rfl rfl rfl ?_
        refine W.any (.shrE (m) (1) (m / 2) rfl rfl rfl rfl (by decide) (rfl)) rfl rfl rfl ?_
        refine W.any (.assign rfl) rfl rfl rfl ?_
        refine W.nil ?_
        refine E.again (b * b % M, m / 2, out) (.cons rfl (.cons rfl (.cons rfl (.nil _)))) ?_ ?_
        · exact ⟨L6_2, hbb, by omega, ho, by rw [step0 b m out (by omega)]; exact hi⟩
        · first | omega | (simp only []; omega)
    · have hm0 : m = 0 := by omega
      subst hm0
      rw [pw_end b out ho] at hi
      refine WC.exit ?_
      refine E.thenX ?_
      refine E.thenX ?_
      refine E.blkH ?_
      refine E.thenN ?_
      refine WC.seq ?_
      refine WC.region ?_
      refine W.any (.move rfl) rfl rfl rfl ?_
      refine W.any (.assign rfl) rfl rfl rfl ?_
      refine W.nil ?_
      refine E.thenN ?_
      refine WC.ret ?_
      refine E.ret1 rfl rfl ?_
      exact ⟨by rw [hi], Ll⟩

theorem dec1 (x : Nat) : decide ((x : Int) = 1) = decide (x = 1) := decide_eq_decide.2 (by omega)

theorem pright_ok (p : Nat) (hp : p < 18446744073709551616) (w : World) : Calls Try.prog 90 #[.int .u64 ((p : Nat) : Int)] w fun e w' => e = .returned (.bool (right p)) ∧ Le w w' := by
  refine enter Try.func90 rfl rfl ?_
  have L0 := Le.refl w
  refine WC.seq ?_
  refine WC.region ?_
  refine W.any (.assign rfl) rfl rfl rfl ?_
  refine W.nil ?_
  refine E.thenN ?_
  refine WC.seq ?_
  refine WC.region ?_
  refine W.any (.move rfl) rfl rfl rfl ?_
  by_cases h0 : 0 < p
  · refine W.any (.dec (.gtr rfl rfl) (decide_eq_true (by omega))) rfl rfl rfl ?_
    refine W.any (.move rfl) rfl rfl rfl ?_
    refine W.rdg (Any.rd (.move rfl) _) rfl rfl rfl (rfl) rfl rfl ?_
    by_cases h1 : p < 4611686018427377339
    · refine W.rdg (Any.rd (.dec (.lss rfl rfl) (decide_eq_true (by omega))) _) rfl rfl rfl (rfl) rfl rfl ?_
      refine W.any (.pickT rfl rfl rfl) rfl rfl rfl ?_
      refine W.any (.move rfl) rfl rfl rfl ?_
      refine W.rdg (Any.rd (.move rfl) _) rfl rfl rfl (rfl) rfl rfl ?_
      refine W.efg rfl rfl rfl (rfl) rfl rfl ?_
      refine Ef.call go138 rfl rfl (power_ok p 2305843009213688669 hp (by decide) w) ?_
      rintro _ w1_8 ⟨rfl, h1_8⟩
      refine ⟨_, rfl, ?_⟩
      have L1_8 := L0.trans h1_8
      refine W.rdg (Any.rd (.eql rfl rfl) _) rfl rfl rfl (rfl) rfl rfl ?_
      refine W.any (.pickT rfl rfl rfl) rfl rfl rfl ?_
      refine W.any (.assign rfl) rfl rfl rfl ?_
      refine W.nil ?_
      refine E.thenN ?_
      refine WC.ret ?_
      refine E.ret1 rfl rfl ?_
      exact ⟨by rw [right, decide_eq_true h0, decide_eq_true (show p < M from h1), Bool.true_and, Bool.true_and, ← dec1]; rfl, L1_8⟩
    · refine W.rdg (Any.rd (.dec (.lss rfl rfl) (decide_eq_false (by omega))) _) rfl rfl rfl (rfl) rfl rfl ?_
      refine W.any (.pickT rfl rfl rfl) rfl rfl rfl ?_
      refine W.any (.move rfl) rfl rfl rfl ?_
      refine W.skip rfl rfl rfl (rfl) rfl rfl ?_
      refine W.skip rfl rfl rfl (rfl) rfl rfl ?_
      refine W.skip rfl rfl rfl (rfl) rfl rfl ?_
      refine W.any (.pickF rfl rfl rfl) rfl rfl rfl ?_
      refine W.any (.assign rfl) rfl rfl rfl ?_
      refine W.nil ?_
      refine E.thenN ?_
      refine WC.ret ?_
      refine E.ret1 rfl rfl ?_
      exact ⟨by rw [right, decide_eq_false (show ¬ p < M from h1), Bool.and_false, Bool.false_and], L0⟩
  · refine W.any (.dec (.gtr rfl rfl) (decide_eq_false (by omega))) rfl rfl rfl ?_
    refine W.any (.move rfl) rfl rfl rfl ?_
    refine W.skip rfl rfl rfl (rfl) rfl rfl ?_
    refine W.skip rfl rfl rfl (rfl) rfl rfl ?_
    refine W.any (.pickF rfl rfl rfl) rfl rfl rfl ?_
    refine W.any (.move rfl) rfl rfl rfl ?_
    refine W.skip rfl rfl rfl (rfl) rfl rfl ?_
    refine W.skip rfl rfl rfl (rfl) rfl rfl ?_
    refine W.skip rfl rfl rfl (rfl) rfl rfl ?_
    refine W.any (.pickF rfl rfl rfl) rfl rfl rfl ?_
    refine W.any (.assign rfl) rfl rfl rfl ?_
    refine W.nil ?_
    refine E.thenN ?_
    refine WC.ret ?_
    refine E.ret1 rfl rfl ?_
    exact ⟨by rw [right, decide_eq_false h0, Bool.false_and, Bool.false_and], L0⟩

theorem taken_ok (p : Nat) (hp : p < 18446744073709551616) (w : World) : Calls Try.prog 141 #[.int .u64 ((p : Nat) : Int)] w fun e w' => e = .returned (.int .u64 ((taken p : Nat) : Int)) ∧ Le w w' := by
  refine enter Try.func141 rfl rfl ?_
  have L0 := Le.refl w
  refine WC.seq ?_
  refine WC.region ?_
  refine W.any (.assign rfl) rfl rfl rfl ?_
  refine W.nil ?_
  refine E.thenN ?_
  refine WC.seq ?_
  refine WC.seq ?_
  refine WC.region ?_
  refine W.any (.move rfl) rfl rfl rfl ?_
  refine W.ef rfl rfl rfl ?_
  refine Ef.call go90 rfl rfl (pright_ok p hp w) ?_
  rintro _ w1_1 ⟨rfl, h1_1⟩
  refine ⟨_, rfl, ?_⟩
  have L1_1 := L0.trans h1_1
  refine W.nil ?_
  refine E.thenN ?_
  refine WC.condB rfl (fun c0 => ?_) (fun c0 => ?_)
  · refine WC.seq ?_
    refine WC.region ?_
    refine W.any (.move rfl) rfl rfl rfl ?_
    refine W.any (.assign rfl) rfl rfl rfl ?_
    refine W.nil ?_
    refine E.thenN ?_
    refine WC.ret ?_
    refine E.thenR ?_
    refine E.ret1 rfl rfl ?_
    exact ⟨by rw [taken, if_pos c0], L1_1⟩
  · refine WC.skip ?_
    refine E.thenN ?_
    refine WC.seq ?_
    refine WC.region ?_
    refine W.any (.assign rfl) rfl rfl rfl ?_
    refine W.nil ?_
    refine E.thenN ?_
    refine WC.ret ?_
    refine E.ret1 rfl rfl ?_
    exact ⟨by rw [taken, if_neg (by rw [c0]; simp)]; rfl, L1_1⟩

theorem taken_lt (p : Nat) : taken p < 18446744073709551616 := Nat.lt_trans ((right_iff _).1 (right_taken p)).2.1 (by decide)

theorem scale_ok (p k : Nat) (hp : p < 18446744073709551616) (w : World) : Calls Try.prog 93 #[.int .u64 ((p : Nat) : Int), .int .u64 ((k : Nat) : Int)] w fun e w' => e = .returned (.int .u64 ((scale p k : Nat) : Int)) ∧ Le w w' := by
  refine enter Try.func93 rfl rfl ?_
  have L0 := Le.refl w
  refine WC.seq ?_
  refine WC.region ?_
  refine W.any (.assign rfl) rfl rfl rfl ?_
  refine W.nil ?_
  refine E.thenN ?_
  refine WC.seq ?_
  refine WC.region ?_
  refine W.any (.move rfl) rfl rfl rfl ?_
  refine W.ef rfl rfl rfl ?_
  refine Ef.call go141 rfl rfl (taken_ok p hp w) ?_
  rintro _ w1_1 ⟨rfl, h1_1⟩
  refine ⟨_, rfl, ?_⟩
  have L1_1 := L0.trans h1_1
  refine W.any (.move rfl) rfl rfl rfl ?_
  refine W.any (.remN (k) (2305843009213688669) (k % 2305843009213688669) rfl rfl rfl rfl (by decide) (rfl)) rfl rfl rfl ?_
  refine W.ef rfl rfl rfl ?_
  refine Ef.call go138 rfl rfl (power_ok (taken p) (k % 2305843009213688669) (taken_lt p) (by omega) w1_1) ?_
  rintro _ w1_4 ⟨rfl, h1_4⟩
  refine ⟨_, rfl, ?_⟩
  have L1_4 := L1_1.trans h1_4
  refine W.any (.assign rfl) rfl rfl rfl ?_
  refine W.nil ?_
  refine E.thenN ?_
  refine WC.ret ?_
  refine E.ret1 rfl rfl ?_
  exact ⟨rfl, L1_4⟩

theorem base_ok (k : Nat) (w : World) : Calls Try.prog 49 #[.int .u64 ((k : Nat) : Int)] w fun e w' => e = .returned (.int .u64 ((base k : Nat) : Int)) ∧ Le w w' := by
  refine enter Try.func49 rfl rfl ?_
  have L0 := Le.refl w
  refine WC.seq ?_
  refine WC.region ?_
  refine W.any (.assign rfl) rfl rfl rfl ?_
  refine W.nil ?_
  refine E.thenN ?_
  refine WC.seq ?_
  refine WC.region ?_
  refine W.any (.move rfl) rfl rfl rfl ?_
  refine W.ef rfl rfl rfl ?_
  refine Ef.call go93 rfl rfl (scale_ok 4 k (by decide) w) ?_
  rintro _ w1_1 ⟨rfl, h1_1⟩
  refine ⟨_, rfl, ?_⟩
  have L1_1 := L0.trans h1_1
  refine W.any (.assign rfl) rfl rfl rfl ?_
  refine W.nil ?_
  refine E.thenN ?_
  refine WC.ret ?_
  refine E.ret1 rfl rfl ?_
  exact ⟨rfl, L1_1⟩

theorem fright_ok (a : Nat) (w : World) : Calls Try.prog 60 #[.int .u64 ((a : Nat) : Int)] w fun e w' => e = .returned (.bool (decide (a < q))) ∧ Le w w' := by
  refine enter Try.func60 rfl rfl ?_
  have L0 := Le.refl w
  refine WC.seq ?_
  refine WC.region ?_
  refine W.any (.assign rfl) rfl rfl rfl ?_
  refine W.nil ?_
  refine E.thenN ?_
  refine WC.seq ?_
  refine WC.region ?_
  refine W.any (.move rfl) rfl rfl rfl ?_
  refine W.any (.lss rfl rfl) rfl rfl rfl ?_
  refine W.any (.assign rfl) rfl rfl rfl ?_
  refine W.nil ?_
  refine E.thenN ?_
  refine WC.ret ?_
  refine E.ret1 rfl rfl ?_
  exact ⟨congrArg (fun b => Ending.returned (Value.bool b)) (decide_eq_decide.2 (by rw [q_def]; omega)), L0⟩

theorem of_ok (a : Nat) (w : World) : Calls Try.prog 102 #[.int .u64 ((a : Nat) : Int)] w fun e w' => e = .returned (.int .u64 ((a % q : Nat) : Int)) ∧ Le w w' := by
  refine enter Try.func102 rfl rfl ?_
  have L0 := Le.refl w
  refine WC.seq ?_
  refine WC.region ?_
  refine W.any (.assign rfl) rfl rfl rfl ?_
  refine W.nil ?_
  refine E.thenN ?_
  refine WC.seq ?_
  refine WC.region ?_
  refine W.any (.move rfl) rfl rfl rfl ?_
  refine W.any (.remN (a) (2305843009213688669) (a % 2305843009213688669) rfl rfl rfl rfl (by decide) (rfl)) rfl rfl rfl ?_
  refine W.any (.assign rfl) rfl rfl rfl ?_
  refine W.nil ?_
  refine E.thenN ?_
  refine WC.ret ?_
  refine E.ret1 rfl rfl ?_
  exact ⟨rfl, L0⟩

theorem fmul_ok (a b : Nat) (w : World) : Calls Try.prog 143 #[.int .u64 ((a : Nat) : Int), .int .u64 ((b : Nat) : Int)] w fun e w' => e = .returned (.int .u64 ((mulS a b : Nat) : Int)) ∧ Le w w' := by
  refine enter Try.func143 rfl rfl ?_
  have L0 := Le.refl w
  refine WC.seq ?_
  refine WC.region ?_
  refine W.any (.assign rfl) rfl rfl rfl ?_
  refine W.nil ?_
  refine E.thenN ?_
  refine WC.seq ?_
  refine WC.region ?_
  refine W.any (.move rfl) rfl rfl rfl ?_
  refine W.ef rfl rfl rfl ?_
  refine Ef.call go102 rfl rfl (of_ok a w) ?_
  rintro _ w1_1 ⟨rfl, h1_1⟩
  refine ⟨_, rfl, ?_⟩
  have L1_1 := L0.trans h1_1
  refine W.any (.move rfl) rfl rfl rfl ?_
  refine W.ef rfl rfl rfl ?_
  refine Ef.call go102 rfl rfl (of_ok b w1_1) ?_
  rintro _ w1_3 ⟨rfl, h1_3⟩
  refine ⟨_, rfl, ?_⟩
  have L1_3 := L1_1.trans h1_3
  refine W.ef rfl rfl rfl ?_
  refine Ef.call go165 rfl rfl (ntimes_ok (a % q) (b % q) (mod_q_lt a) (mod_q_lt b) w1_3) ?_
  rintro _ w1_4 ⟨rfl, h1_4⟩
  refine ⟨_, rfl, ?_⟩
  have L1_4 := L1_3.trans h1_4
  refine W.any (.assign rfl) rfl rfl rfl ?_
  refine W.nil ?_
  refine E.thenN ?_
  refine WC.ret ?_
  refine E.ret1 rfl rfl ?_
  exact ⟨rfl, L1_4⟩

theorem from_ok (h : List (BitVec 8)) (hh : h.length = 32) (w : World) : Calls Try.prog 139 #[.agg (h.map u8v).toArray] w fun e w' => e = .returned (.int .u64 ((fromB h : Nat) : Int)) ∧ Le w w' := by
  refine enter Try.func139 rfl rfl ?_
  have L0 := Le.refl w
  refine WC.seq ?_
  refine WC.region ?_
  refine W.ef rfl rfl rfl ?_
  refine Ef.boxA rfl ?_
  intro g0_0 w0_0 hg0_0 b0_0 h0_0
  have L0_0 := L0.trans h0_0
  refine W.any (.assign rfl) rfl rfl rfl ?_
  refine W.nil ?_
  refine E.thenN ?_
  refine WC.seq ?_
  refine WC.region ?_
  refine W.any (.assign rfl) rfl rfl rfl ?_
  refine W.nil ?_
  refine E.thenN ?_
  refine WC.seq ?_
  refine WC.seq ?_
  refine WC.region ?_
  refine W.rd (.loadAll ag89 (by simp [hh]) rfl (b0_0)) rfl rfl rfl ?_
  refine W.any (.move rfl) rfl rfl rfl ?_
  refine W.nil ?_
  refine E.thenN ?_
  refine WC.block ?_
  refine WC.loop (ι := Nat) (fun k => [(6, .agg (h.map u8v).toArray), (7, .int .i64 (k : Int)), (3, .int .u64 ((fromTo 0 (h.take k) : Nat) : Int))]) (fun k wl => k ≤ 32 ∧ Le w wl) (fun k => 32 - k) 0 ?_ ?_ ?_
  · exact .cons rfl (.cons rfl (.cons rfl (.nil _)))
  · exact ⟨by omega, L0_0⟩
  · rintro k wl ⟨hk, Ll⟩
    have hlt : fromTo 0 (h.take k) < q - 1 := fromTo_lt _ 0 (by decide)
    have hlt2 : fromTo 0 (h.take k) < 2305843009213688668 := hlt
    refine WC.seq ?_
    refine WC.region ?_
    refine W.any (.lss rfl rfl) rfl rfl rfl ?_
    refine W.nil ?_
    refine E.thenN ?_
    refine WC.seq ?_
    refine WC.cond rfl (fun c0 => ?_) (fun c0 => ?_)
    · have hb : h[k]? = some (h.getD k 0) := by rw [List.getElem?_eq_getElem (by omega), List.getD_eq_getElem?_getD, List.getElem?_eq_getElem (by omega)]; rfl
      have hbl := (h.getD k 0).isLt
      refine WC.skip ?_
      refine E.thenN ?_
      refine WC.seq ?_
      refine WC.block ?_
      refine WC.seq ?_
      refine WC.region ?_
      refine W.any (.as (Any.idxV k Try.underlying89 Try.underlying5 sz5 hh rfl rfl rfl (by omega)) (show u8v (h.getD k 0) = _ from rfl)) rfl rfl rfl ?_
      refine W.any (.assign rfl) rfl rfl rfl ?_
      refine W.nil ?_
      refine E.thenN ?_
      refine WC.region ?_
      refine W.any (.move rfl) rfl rfl rfl ?_
      refine W.any (.shrE (fromTo 0 (h.take k)) (56) (fromTo 0 (h.take k) / 72057594037927936) rfl rfl rfl rfl (by decide) (rfl)) rfl rfl rfl ?_
      refine W.any (.move rfl) rfl rfl rfl ?_
      refine W.any (.shlN (fromTo 0 (h.take k)) (8) (fromTo 0 (h.take k) * 256 % 18446744073709551616) rfl rfl rfl rfl (by decide) (rfl)) rfl rfl rfl ?_
      refine W.any (.move rfl) rfl rfl rfl ?_
      refine W.rd (.u8to64 (isS Try.underlying5) Try.underlying29 rfl) rfl rfl rfl ?_
      refine W.any (.orE (fromTo 0 (h.take k) * 256 % 18446744073709551616) ((h.getD k 0).toNat) (fromTo 0 (h.take k) * 256 % 18446744073709551616 + (h.getD k 0).toNat) rfl rfl rfl rfl (by omega) (by omega) (or_byteM _ _ hbl)) rfl rfl rfl ?_
      refine W.ef rfl rfl rfl ?_
      refine Ef.call go163 rfl rfl (rem64_ok (fromTo 0 (h.take k) / 72057594037927936) (fromTo 0 (h.take k) * 256 % 18446744073709551616 + (h.getD k 0).toNat) 2305843009213688668 (by decide) (by decide) (by omega) wl) ?_
      rintro _ w5_7 ⟨rfl, h5_7⟩
      refine ⟨_, rfl, ?_⟩
      have L5_7 := Ll.trans h5_7
      refine W.any (.assign rfl) rfl rfl rfl ?_
      refine W.nil ?_
      refine E.blkN ?_
      refine E.thenN ?_
      refine WC.region ?_
      refine W.any (.add rfl rfl (by omega)) rfl rfl rfl ?_
      refine W.any (.move rfl) rfl rfl rfl ?_
      refine W.nil ?_
      refine E.again (k + 1) (.cons rfl (.cons rfl (.cons' rfl (int_eq (congrArg Nat.cast (by rw [fromTo_snoc h k 0 _ hb, show q - 1 = 2305843009213688668 from rfl]; congr 1; omega))) (.nil _)))) ?_ ?_
      · exact ⟨by omega, L5_7⟩
      · first | omega | (simp only []; omega)
    · have hk32 : k = 32 := by omega
      subst hk32
      refine WC.exit ?_
      refine E.thenX ?_
      refine E.thenX ?_
      refine E.blkH ?_
      refine E.thenN ?_
      refine WC.seq ?_
      refine WC.region ?_
      refine W.any (.move rfl) rfl rfl rfl ?_
      refine W.any (.addN (fromTo 0 (h.take 32)) (1) (fromTo 0 (h.take 32) + 1) rfl rfl rfl rfl (by omega)) rfl rfl rfl ?_
      refine W.any (.assign rfl) rfl rfl rfl ?_
      refine W.nil ?_
      refine E.thenN ?_
      refine WC.ret ?_
      refine E.ret1 rfl rfl ?_
      exact ⟨by rw [fromB, List.take_of_length_le (by omega)], Ll⟩



end Go.Proofs.Ytfgakofjkldcjaa

namespace Go.Proofs.Ytfgakofjkldcjaa
open Go Go.Sx Go.Hsp Go.Num Go.Osp
set_option maxRecDepth 20000
def hopV (h : Hop) : List Value := [.int .i64 h.1, .int .i64 h.2.1, .int .i64 h.2.2.1, .int .i64 h.2.2.2.1, .int .u64 (h.2.2.2.2.1 : Nat), .int .u64 (h.2.2.2.2.2 : Nat)]
def stopV (s : Stop) : List Value := .int .u64 (s.1 : Nat) :: s.2.map u8v
theorem stopV_length (s : Stop) (h : s.2.length = 32) : (stopV s).length = 33 := by simp [stopV, h]
theorem hopV_one (h : Hop) : ∀ u ∈ hopV h, u.oneCell' = true := fun u hu => by simp [hopV] at hu; rcases hu with rfl | rfl | rfl | rfl | rfl | rfl <;> rfl
theorem stopV_one (s : Stop) : ∀ u ∈ stopV s, u.oneCell' = true := fun u hu => by
  simp only [stopV, List.mem_cons] at hu
  rcases hu with rfl | hu
  · rfl
  · exact all_u8v _ u hu
theorem stopV_at (s : Stop) : ∀ i u, (s.2.map u8v)[i]? = some u → (stopV s).toArray[1 + i]? = some u := fun i u hu => by
  rw [Nat.add_comm]; simpa [stopV] using hu
theorem wrap_usg (i : Int) : IntKind.u64.wrap i = ((usg i : Nat) : Int) := by rw [wrap_u64]; unfold usg; omega
theorem wrap_sgn (m : Nat) (hm : m < 18446744073709551616) : IntKind.i64.wrap (m : Int) = sgn m := by
  rw [IntKind.wrap_i64]; unfold sgn
  split <;> omega
theorem numTo_snoc (xs : List Byte) (k n : Nat) (b : Byte) (h : xs[k]? = some b) : numTo n (xs.take (k + 1)) = numTo n (xs.take k) * 256 + b.toNat := by
  have ap : ∀ (l m : List Byte) (n : Nat), numTo n (l ++ m) = numTo (numTo n l) m := by
    intro l
    induction l with
    | nil => intro m n; rfl
    | cons c l ih => intro m n; exact ih m _
  rw [List.take_add_one, h, ap]
  rfl
theorem flatten_snoc (ps : List (List Byte)) (k : Nat) (q : List Byte) (h : ps[k]? = some q) : (ps.take (k + 1)).flatten = (ps.take k).flatten ++ q := by
  rw [List.take_add_one, h]; simp
theorem flatten_take_le : ∀ (ps : List (List Byte)) (k : Nat), (ps.take k).flatten.length ≤ ps.flatten.length
  | [], k => by simp
  | p :: ps, 0 => by simp
  | p :: ps, k + 1 => by
    have := flatten_take_le ps k
    simp only [List.take_succ_cons, List.flatten_cons, List.length_append]; omega
theorem eight_ok (m : Nat) (w : World) : Calls Try.prog 115 #[.int .u64 ((m : Nat) : Int)] w fun e w' => ∃ g, e = .returned (.slice (some ⟨g, 0, none⟩) 8 8) ∧ w.heap.size ≤ g ∧ Blk w' g 5 ((be8 m).map u8v).toArray ∧ Le w w' := by
  refine enter Try.func115 rfl rfl ?_
  have L0 := Le.refl w
  refine WC.seq ?_
  refine WC.region ?_
  refine W.any (.assign rfl) rfl rfl rfl ?_
  refine W.nil ?_
  refine E.thenN ?_
  refine WC.seq ?_
  refine WC.region ?_
  refine W.ef rfl rfl rfl ?_
  refine Ef.makeSlice 8 8 Try.underlying107 el5 rfl rfl rfl rfl (by decide) (by decide) (by decide) ?_
  intro g1_0 w1_0 hg1_0 b1_0 h1_0
  have L1_0 := L0.trans h1_0
  refine W.any (.assign rfl) rfl rfl rfl ?_
  refine W.nil ?_
  refine E.thenN ?_
  refine WC.seq ?_
  refine WC.seq ?_
  refine WC.region ?_
  refine W.any (.move rfl) rfl rfl rfl ?_
  refine W.rd (.len Try.underlying107 rfl) rfl rfl rfl ?_
  refine W.any (.move rfl) rfl rfl rfl ?_
  refine W.nil ?_
  refine E.thenN ?_
  refine WC.block ?_
  refine WC.loop (ι := Nat) (fun k => [(0, .int .u64 ((m : Nat) : Int)), (3, .slice (some ⟨g1_0, 0, none⟩) 8 8), (7, .int .i64 8), (8, .int .i64 (k : Int))]) (fun k wl => k ≤ 8 ∧ Le w wl ∧ Blk wl g1_0 5 (((be8To m k) ++ List.replicate (8 - k) 0#8).map u8v).toArray) (fun k => 8 - k) 0 ?_ ?_ ?_
  · exact .cons rfl (.cons rfl (.cons rfl (.cons rfl (.nil _))))
  · exact ⟨by omega, L1_0, b1_0.cast (made_u8 8)⟩
  · rintro k wl ⟨hk8, Ll, b1⟩
    have hbl : (be8To m k).length = k := by simp [be8To, be8_length]; omega
    refine WC.seq ?_
    refine WC.region ?_
    refine W.any (.lss rfl rfl) rfl rfl rfl ?_
    refine W.nil ?_
    refine E.thenN ?_
    refine WC.seq ?_
    refine WC.cond rfl (fun c0 => ?_) (fun c0 => ?_)
    · refine WC.skip ?_
      refine E.thenN ?_
      refine WC.seq ?_
      refine WC.block ?_
      refine WC.seq ?_
      refine WC.region ?_
      refine W.any (.move rfl) rfl rfl rfl ?_
      refine W.any (.assign rfl) rfl rfl rfl ?_
      refine W.nil ?_
      refine E.thenN ?_
      refine WC.region ?_
      refine W.any (.move rfl) rfl rfl rfl ?_
      refine W.any (.move rfl) rfl rfl rfl ?_
      refine W.any (.move rfl) rfl rfl rfl ?_
      refine W.any (.move rfl) rfl rfl rfl ?_
      refine W.any (.mul rfl rfl (by omega)) rfl rfl rfl ?_
      refine W.any (.sub rfl rfl (by omega)) rfl rfl rfl ?_
      refine W.any (.shrN m (56 - 8 * k) rfl rfl rfl (by omega) (by show 56 - 8 * k ≤ 64; omega)) rfl rfl rfl ?_
      refine W.rd (.toU8 (m >>> (56 - 8 * k)) (isS Try.underlying29) Try.underlying5 rfl rfl) rfl rfl rfl ?_
      refine W.any (.idxB1 (k) Try.underlying107 sz5 rfl rfl (rfl) (by omega)) rfl rfl rfl ?_
      refine W.ef0 rfl rfl ?_
      refine Ef.store sz5 rfl rfl (b1) (by simp; omega) (rfl) ?_
      intro w5_9 b5_9 h5_9
      have L5_9 : Le w w5_9 := Ll.then_ h5_9 (fun q hq => by cases hq; exact hg1_0)
      refine W.nil ?_
      refine E.blkN ?_
      refine E.thenN ?_
      refine WC.region ?_
      refine W.any (.add rfl rfl (by omega)) rfl rfl rfl ?_
      refine W.any (.move rfl) rfl rfl rfl ?_
      refine W.nil ?_
      refine E.again (k + 1) (.cons rfl (.cons rfl (.cons rfl (.cons rfl (.nil _))))) ?_ ?_
      · exact ⟨by omega, L5_9, b5_9.cast (by rw [fill_set u8v (be8To m k) 0#8 _ 8 k hbl (by omega), be8To_succ m k (by omega)])⟩
      · first | omega | (simp only []; omega)
    · have hk8 : k = 8 := by omega
      subst hk8
      have b1 : Blk wl g1_0 5 ((be8 m).map u8v).toArray := b1
      refine WC.exit ?_
      refine E.thenX ?_
      refine E.thenX ?_
      refine E.blkH ?_
      refine E.thenN ?_
      refine WC.seq ?_
      refine WC.region ?_
      refine W.any (.move rfl) rfl rfl rfl ?_
      refine W.any (.assign rfl) rfl rfl rfl ?_
      refine W.nil ?_
      refine E.thenN ?_
      refine WC.ret ?_
      refine E.ret1 rfl rfl ?_
      exact ⟨g1_0, rfl, hg1_0, b1, Ll⟩

theorem number_ok {A : Option Addr} {n c : Nat} {xs : List Byte} (w : World) (hS : Sb w A n xs) (h8 : 8 ≤ n) (hc : n ≤ c) : Calls Try.prog 116 #[.slice A n c] w fun e w' => e = .returned (.int .u64 ((numB xs : Nat) : Int)) ∧ Le w w' := by
  have hl := hS.len
  refine enter Try.func116 rfl rfl ?_
  have L0 := Le.refl w
  refine WC.seq ?_
  refine WC.region ?_
  refine W.any (.assign rfl) rfl rfl rfl ?_
  refine W.nil ?_
  refine E.thenN ?_
  refine WC.seq ?_
  refine WC.seq ?_
  refine WC.region ?_
  refine W.any (.move rfl) rfl rfl rfl ?_
  refine W.any (.cutH (8) Try.underlying107 sz5 rfl rfl (rfl) (by omega)) rfl rfl rfl ?_
  refine W.rd (.len Try.underlying107 rfl) rfl rfl rfl ?_
  refine W.any (.move rfl) rfl rfl rfl ?_
  refine W.nil ?_
  refine E.thenN ?_
  refine WC.block ?_
  refine WC.loop (ι := Nat) (fun k => [(2, .int .u64 ((numTo 0 (xs.take k) : Nat) : Int)), (6, .slice A 8 c), (7, .int .i64 8), (8, .int .i64 (k : Int))]) (fun k wl => k ≤ 8 ∧ Le w wl) (fun k => 8 - k) 0 ?_ ?_ ?_
  · exact .cons rfl (.cons rfl (.cons rfl (.cons rfl (.nil _))))
  · exact ⟨by omega, L0⟩
  · rintro k wl ⟨hk, Ll⟩
    refine WC.seq ?_
    refine WC.region ?_
    refine W.any (.lss rfl rfl) rfl rfl rfl ?_
    refine W.nil ?_
    refine E.thenN ?_
    refine WC.seq ?_
    refine WC.cond rfl (fun c0 => ?_) (fun c0 => ?_)
    · have hb : xs[k]? = some (xs.getD k 0) := by rw [List.getElem?_eq_getElem (by omega), List.getD_eq_getElem?_getD, List.getElem?_eq_getElem (by omega)]; rfl
      have hbl := (xs.getD k 0).isLt
      have hnl : numTo 0 (xs.take k) < 256 ^ 7 := by
        have h1 := numTo_lt (xs.take k) 0 0 (by decide)
        exact Nat.lt_of_lt_of_le h1 (Nat.pow_le_pow_right (by decide) (by rw [List.length_take]; omega))
      have hnl' : numTo 0 (xs.take k) < 72057594037927936 := hnl
      refine WC.skip ?_
      refine E.thenN ?_
      refine WC.seq ?_
      refine WC.block ?_
      refine WC.seq ?_
      refine WC.region ?_
      refine W.any (.idxS1 (k) Try.underlying107 sz5 rfl rfl (hS.isSome (by omega)) (rfl) (by omega)) rfl rfl rfl ?_
      refine W.rd (.loadS na5 rfl (hS.le Ll) (getb xs (by omega))) rfl rfl rfl ?_
      refine W.any (.assign rfl) rfl rfl rfl ?_
      refine W.nil ?_
      refine E.thenN ?_
      refine WC.region ?_
      refine W.any (.move rfl) rfl rfl rfl ?_
      refine W.any (.shlN (numTo 0 (xs.take k)) (8) (numTo 0 (xs.take k) * 256) rfl rfl rfl rfl (by decide) (by omega)) rfl rfl rfl ?_
      refine W.any (.move rfl) rfl rfl rfl ?_
      refine W.rd (.u8to64 (isS Try.underlying5) Try.underlying29 rfl) rfl rfl rfl ?_
      refine W.any (.orE (numTo 0 (xs.take k) * 256) ((xs.getD k 0).toNat) (numTo 0 (xs.take k) * 256 + (xs.getD k 0).toNat) rfl rfl rfl rfl (by omega) (by omega) (or_byte _ _ hbl)) rfl rfl rfl ?_
      refine W.any (.assign rfl) rfl rfl rfl ?_
      refine W.nil ?_
      refine E.blkN ?_
      refine E.thenN ?_
      refine WC.region ?_
      refine W.any (.add rfl rfl (by omega)) rfl rfl rfl ?_
      refine W.any (.move rfl) rfl rfl rfl ?_
      refine W.nil ?_
      refine E.again (k + 1) (.cons' rfl (int_eq (congrArg Nat.cast (by rw [numTo_snoc xs k 0 _ hb]))) (.cons rfl (.cons rfl (.cons rfl (.nil _))))) ?_ ?_
      · exact ⟨by omega, Ll⟩
      · first | omega | (simp only []; omega)
    · have hk8 : k = 8 := by omega
      subst hk8
      refine WC.exit ?_
      refine E.thenX ?_
      refine E.thenX ?_
      refine E.blkH ?_
      refine E.thenN ?_
      refine WC.seq ?_
      refine WC.region ?_
      refine W.any (.move rfl) rfl rfl rfl ?_
      refine W.any (.assign rfl) rfl rfl rfl ?_
      refine W.nil ?_
      refine E.thenN ?_
      refine WC.ret ?_
      refine E.ret1 rfl rfl ?_
      exact ⟨rfl, Ll⟩

theorem xor_ok {A B : Option Addr} {n c c' : Nat} {xs ys : List Byte} (w : World) (hS : Sb w A n xs) (hT : Sb w B n ys) (hn : n ≤ 1000000) : Calls Try.prog 109 #[.slice A n c, .slice B n c'] w fun e w' => ∃ A' c', e = .returned (.slice A' n c') ∧ Own w' w.heap.size 5 1 A' n c' ((xorB xs ys).map u8v) ∧ Le w w' := by
  have hl := hS.len
  have hl2 := hT.len
  refine enter Try.func109 rfl rfl ?_
  have L0 := Le.refl w
  refine WC.seq ?_
  refine WC.region ?_
  refine W.any (.assign rfl) rfl rfl rfl ?_
  refine W.nil ?_
  refine E.thenN ?_
  refine WC.seq ?_
  refine WC.region ?_
  refine W.any (.move rfl) rfl rfl rfl ?_
  refine W.ef rfl rfl rfl ?_
  refine Ef.call go125 rfl rfl (clone_ok w hS (by omega)) ?_
  rintro _ w1_1 ⟨A1, c1, rfl, o1, h1_1⟩
  refine ⟨_, rfl, ?_⟩
  have L1_1 := L0.trans h1_1
  refine W.any (.assign rfl) rfl rfl rfl ?_
  refine W.nil ?_
  refine E.thenN ?_
  refine WC.seq ?_
  refine WC.seq ?_
  refine WC.region ?_
  refine W.any (.move rfl) rfl rfl rfl ?_
  refine W.rd (.len Try.underlying107 rfl) rfl rfl rfl ?_
  refine W.any (.move rfl) rfl rfl rfl ?_
  refine W.nil ?_
  refine E.thenN ?_
  refine WC.block ?_
  refine WC.loop (ι := Nat) (fun k => [(1, .slice B n c'), (5, .slice A1 n c1), (10, .int .i64 (n : Int)), (11, .int .i64 (k : Int))]) (fun k wl => k ≤ n ∧ Le w wl ∧ Own wl w.heap.size 5 1 A1 n c1 ((overTo xs ys k).map u8v)) (fun k => n - k) 0 ?_ ?_ ?_
  · exact .cons rfl (.cons rfl (.cons rfl (.cons rfl (.nil _))))
  · exact ⟨Nat.zero_le _, L1_1, o1.cast rfl (by rw [overTo_zero])⟩
  · rintro k wl ⟨hkn, Ll, ol⟩
    have hol := overTo_length xs ys k (by omega) (by omega)
    refine WC.seq ?_
    refine WC.region ?_
    refine W.any (.lss rfl rfl) rfl rfl rfl ?_
    refine W.nil ?_
    refine E.thenN ?_
    refine WC.seq ?_
    refine WC.cond rfl (fun c0 => ?_) (fun c0 => ?_)
    · obtain ⟨gA, hA1, hgA1, hgA2, hrow⟩ := ol.lit (by omega)
      subst hA1
      refine WC.skip ?_
      refine E.thenN ?_
      refine WC.seq ?_
      refine WC.block ?_
      refine WC.seq ?_
      refine WC.region ?_
      refine W.any (.move rfl) rfl rfl rfl ?_
      refine W.any (.assign rfl) rfl rfl rfl ?_
      refine W.nil ?_
      refine E.thenN ?_
      refine WC.draw [0, 1, 2, 3, 4, 5, 6, 7, 8, 9, 10] mixed (by kernel_rfl) ?_
      intro w5 d5
      have L5 := Ll.trans d5
      refine G.any rfl rfl (.move rfl) rfl rfl rfl ?_
      refine G.any rfl rfl (.move rfl) rfl rfl rfl ?_
      refine G.any rfl rfl (.idxB1 (k) Try.underlying107 sz5 rfl rfl (rfl) (by omega)) rfl rfl rfl ?_
      refine G.rd rfl rfl (.load na5 rfl (((ol.le d5).sl.2 k _ (getb _ (by omega))).elim fun ad h => by obtain ⟨h1, h2⟩ := h; injection h1 with h1; subst h1; rw [add_lit, Nat.zero_add] at h2; exact h2)) rfl rfl rfl ?_
      refine G.any rfl rfl (.move rfl) rfl rfl rfl ?_
      refine G.any rfl rfl (.move rfl) rfl rfl rfl ?_
      refine G.any rfl rfl (.idxS1 (k) Try.underlying107 sz5 rfl rfl (hT.isSome (by omega)) (rfl) (by omega)) rfl rfl rfl ?_
      refine G.rd rfl rfl (.loadS na5 rfl (hT.le L5) (getb ys (by omega))) rfl rfl rfl ?_
      refine G.any rfl rfl (.xor8 rfl rfl) rfl rfl rfl ?_
      refine G.any rfl rfl (.idxB1 (k) Try.underlying107 sz5 rfl rfl (rfl) (by omega)) rfl rfl rfl ?_
      refine G.ef0 rfl rfl rfl rfl ?_
      refine Ef.storeO sz5 rfl rfl (ol.le d5) (by omega) (rfl) ?_
      intro w5_10 o5_10 h5_10
      have L5_10 : Le w w5_10 := L5.then_ h5_10 (fun q hq => by cases hq; exact hgA1)
      refine ⟨fun h => absurd h (ne_true_of_eq_false (by kernel_rfl)), ?_⟩
      refine G.nil ?_
      refine E.blkN ?_
      refine E.thenN ?_
      refine WC.region ?_
      refine W.any (.add rfl rfl (by omega)) rfl rfl rfl ?_
      refine W.any (.move rfl) rfl rfl rfl ?_
      refine W.nil ?_
      refine E.again (k + 1) (.cons rfl (.cons rfl (.cons rfl (.cons rfl (.nil _))))) ?_ ?_
      · exact ⟨by omega, L5_10, o5_10.cast rfl (by rw [← overTo_succ xs ys k (by omega) (by omega), overTo_at xs ys k (by omega) (by omega), List.map_set])⟩
      · first | omega | (simp only []; omega)
    · have hkn : k = n := by omega
      subst hkn
      refine WC.exit ?_
      refine E.thenX ?_
      refine E.thenX ?_
      refine E.blkH ?_
      refine E.thenN ?_
      refine WC.seq ?_
      refine WC.region ?_
      refine W.any (.move rfl) rfl rfl rfl ?_
      refine W.any (.assign rfl) rfl rfl rfl ?_
      refine W.nil ?_
      refine E.thenN ?_
      refine WC.ret ?_
      refine E.ret1 rfl rfl ?_
      exact ⟨A1, c1, rfl, ol.cast rfl (by rw [← overTo_all xs ys (by omega), hl2]), Ll⟩

theorem within_T (i lo hi : Int) (h : (lo ≤ i ∧ i ≤ hi)) (w : World) : Calls Try.prog 144 #[.int .i64 i, .int .i64 lo, .int .i64 hi] w fun e w' => e = .returned (.bool true) ∧ Le w w' := by
  refine enter Try.func144 rfl rfl ?_
  have L0 := Le.refl w
  refine WC.seq ?_
  refine WC.region ?_
  refine W.any (.assign rfl) rfl rfl rfl ?_
  refine W.nil ?_
  refine E.thenN ?_
  refine WC.seq ?_
  refine WC.region ?_
  refine W.any (.move rfl) rfl rfl rfl ?_
  refine W.any (.move rfl) rfl rfl rfl ?_
  refine W.any (.dec (.leq rfl rfl) (decide_eq_true (by omega))) rfl rfl rfl ?_
  refine W.any (.move rfl) rfl rfl rfl ?_
  refine W.rdg (Any.rd (.move rfl) _) rfl rfl rfl (rfl) rfl rfl ?_
  refine W.rdg (Any.rd (.move rfl) _) rfl rfl rfl (rfl) rfl rfl ?_
  refine W.rdg (Any.rd (.dec (.leq rfl rfl) (decide_eq_true (by omega))) _) rfl rfl rfl (rfl) rfl rfl ?_
  refine W.any (.pickT rfl rfl rfl) rfl rfl rfl ?_
  refine W.any (.assign rfl) rfl rfl rfl ?_
  refine W.nil ?_
  refine E.thenN ?_
  refine WC.ret ?_
  refine E.ret1 rfl rfl ?_
  exact ⟨rfl, L0⟩

theorem within_F (i lo hi : Int) (h : ¬ (lo ≤ i ∧ i ≤ hi)) (w : World) : Calls Try.prog 144 #[.int .i64 i, .int .i64 lo, .int .i64 hi] w fun e w' => e = .returned (.bool false) ∧ Le w w' := by
  refine enter Try.func144 rfl rfl ?_
  have L0 := Le.refl w
  refine WC.seq ?_
  refine WC.region ?_
  refine W.any (.assign rfl) rfl rfl rfl ?_
  refine W.nil ?_
  refine E.thenN ?_
  refine WC.seq ?_
  refine WC.region ?_
  refine W.any (.move rfl) rfl rfl rfl ?_
  refine W.any (.move rfl) rfl rfl rfl ?_
  by_cases h1 : lo ≤ i
  · refine W.any (.dec (.leq rfl rfl) (decide_eq_true (by omega))) rfl rfl rfl ?_
    refine W.any (.move rfl) rfl rfl rfl ?_
    refine W.rdg (Any.rd (.move rfl) _) rfl rfl rfl (rfl) rfl rfl ?_
    refine W.rdg (Any.rd (.move rfl) _) rfl rfl rfl (rfl) rfl rfl ?_
    refine W.rdg (Any.rd (.dec (.leq rfl rfl) (decide_eq_false (by omega))) _) rfl rfl rfl (rfl) rfl rfl ?_
    refine W.any (.pickT rfl rfl rfl) rfl rfl rfl ?_
    refine W.any (.assign rfl) rfl rfl rfl ?_
    refine W.nil ?_
    refine E.thenN ?_
    refine WC.ret ?_
    refine E.ret1 rfl rfl ?_
    exact ⟨rfl, L0⟩
  · refine W.any (.dec (.leq rfl rfl) (decide_eq_false (by omega))) rfl rfl rfl ?_
    refine W.any (.move rfl) rfl rfl rfl ?_
    refine W.skip rfl rfl rfl (rfl) rfl rfl ?_
    refine W.skip rfl rfl rfl (rfl) rfl rfl ?_
    refine W.skip rfl rfl rfl (rfl) rfl rfl ?_
    refine W.any (.pickF rfl rfl rfl) rfl rfl rfl ?_
    refine W.any (.assign rfl) rfl rfl rfl ?_
    refine W.nil ?_
    refine E.thenN ?_
    refine WC.ret ?_
    refine E.ret1 rfl rfl ?_
    exact ⟨rfl, L0⟩

theorem fright_T (a : Nat) (h : a < q) (w : World) : Calls Try.prog 60 #[.int .u64 ((a : Nat) : Int)] w fun e w' => e = .returned (.bool true) ∧ Le w w' := by
  have := fright_ok a w
  rwa [decide_eq_true h] at this

theorem fright_F (a : Nat) (h : ¬ a < q) (w : World) : Calls Try.prog 60 #[.int .u64 ((a : Nat) : Int)] w fun e w' => e = .returned (.bool false) ∧ Le w w' := by
  have := fright_ok a w
  rwa [decide_eq_false h] at this

theorem may_ok (h : Hop) (ho : HopOk h) (w : World) : Calls Try.prog 105 #[.agg (hopV h).toArray] w fun e w' => e = .returned (.bool (mayB h)) ∧ Le w w' := by
  refine enter Try.func105 rfl rfl ?_
  have L0 := Le.refl w
  refine WC.seq ?_
  refine WC.region ?_
  refine W.ef rfl rfl rfl ?_
  refine Ef.boxA rfl ?_
  intro g0_0 w0_0 hg0_0 b0_0 h0_0
  have L0_0 := L0.trans h0_0
  have LL := Le.refl w0_0
  refine W.any (.assign rfl) rfl rfl rfl ?_
  refine W.nil ?_
  refine E.thenN ?_
  refine WC.seq ?_
  refine WC.region ?_
  refine W.any (.assign rfl) rfl rfl rfl ?_
  refine W.nil ?_
  refine E.thenN ?_
  refine WC.seq ?_
  refine WC.region ?_
  refine W.any (.move rfl) rfl rfl rfl ?_
  refine W.any (.field0 fa95_0 rfl) rfl rfl rfl ?_
  refine W.rd (.loadB na3 rfl (b0_0.le LL) (rfl)) rfl rfl rfl ?_
  by_cases q1 : -1 ≤ h.1 ∧ h.1 ≤ 11
  · refine W.ef rfl rfl rfl ?_
    refine Ef.call go144 rfl rfl (within_T _ _ _ q1 w0_0) ?_
    rintro _ w2_3 ⟨rfl, h2_3⟩
    refine ⟨_, rfl, ?_⟩
    have L2_3 := LL.trans h2_3
    refine W.any (.move rfl) rfl rfl rfl ?_
    refine W.rdg (Any.rd (.move rfl) _) rfl rfl rfl (rfl) rfl rfl ?_
    refine W.rdg (Any.rd (.field0 fa95_1 rfl) _) rfl rfl rfl (rfl) rfl rfl ?_
    refine W.rdg (.loadB na3 rfl (b0_0.le L2_3) (rfl)) rfl rfl rfl (rfl) rfl rfl ?_
    by_cases q2 : 0 ≤ h.2.1 ∧ h.2.1 ≤ 1048575
    · refine W.efg rfl rfl rfl (rfl) rfl rfl ?_
      refine Ef.call go144 rfl rfl (within_T _ _ _ q2 w2_3) ?_
      rintro _ w2_8 ⟨rfl, h2_8⟩
      refine ⟨_, rfl, ?_⟩
      have L2_8 := L2_3.trans h2_8
      refine W.any (.pickT rfl rfl rfl) rfl rfl rfl ?_
      refine W.any (.move rfl) rfl rfl rfl ?_
      refine W.rdg (Any.rd (.move rfl) _) rfl rfl rfl (rfl) rfl rfl ?_
      refine W.rdg (Any.rd (.field0 fa95_2 rfl) _) rfl rfl rfl (rfl) rfl rfl ?_
      refine W.rdg (.loadB na3 rfl (b0_0.le L2_8) (rfl)) rfl rfl rfl (rfl) rfl rfl ?_
      by_cases q3 : 0 ≤ h.2.2.1 ∧ h.2.2.1 ≤ 1125899906842624
      · refine W.efg rfl rfl rfl (rfl) rfl rfl ?_
        refine Ef.call go144 rfl rfl (within_T _ _ _ q3 w2_8) ?_
        rintro _ w2_14 ⟨rfl, h2_14⟩
        refine ⟨_, rfl, ?_⟩
        have L2_14 := L2_8.trans h2_14
        refine W.any (.pickT rfl rfl rfl) rfl rfl rfl ?_
        refine W.any (.move rfl) rfl rfl rfl ?_
        refine W.rdg (Any.rd (.move rfl) _) rfl rfl rfl (rfl) rfl rfl ?_
        refine W.rdg (Any.rd (.field0 fa95_3 rfl) _) rfl rfl rfl (rfl) rfl rfl ?_
        refine W.rdg (.loadB na3 rfl (b0_0.le L2_14) (rfl)) rfl rfl rfl (rfl) rfl rfl ?_
        by_cases q4 : 0 ≤ h.2.2.2.1 ∧ h.2.2.2.1 ≤ 1048576
        · refine W.efg rfl rfl rfl (rfl) rfl rfl ?_
          refine Ef.call go144 rfl rfl (within_T _ _ _ q4 w2_14) ?_
          rintro _ w2_20 ⟨rfl, h2_20⟩
          refine ⟨_, rfl, ?_⟩
          have L2_20 := L2_14.trans h2_20
          refine W.any (.pickT rfl rfl rfl) rfl rfl rfl ?_
          refine W.any (.assign rfl) rfl rfl rfl ?_
          refine W.nil ?_
          refine E.thenN ?_
          refine WC.seq ?_
          refine WC.region ?_
          refine W.any (.move rfl) rfl rfl rfl ?_
          refine W.any (.move rfl) rfl rfl rfl ?_
          refine W.rdg (Any.rd (.field0 fa95_5 rfl) _) rfl rfl rfl (rfl) rfl rfl ?_
          refine W.rdg (.loadB na30 rfl (b0_0.le L2_20) (rfl)) rfl rfl rfl (rfl) rfl rfl ?_
          by_cases q5 : h.2.2.2.2.2 < q
          · refine W.efg rfl rfl rfl (rfl) rfl rfl ?_
            refine Ef.call go60 rfl rfl (fright_T _ q5 w2_20) ?_
            rintro _ w3_4 ⟨rfl, h3_4⟩
            refine ⟨_, rfl, ?_⟩
            have L3_4 := L2_20.trans h3_4
            refine W.any (.pickT rfl rfl rfl) rfl rfl rfl ?_
            refine W.any (.move rfl) rfl rfl rfl ?_
            refine W.rdg (Any.rd (.field0 fa95_4 rfl) _) rfl rfl rfl (rfl) rfl rfl ?_
            refine W.rdg (.loadB na31 rfl (b0_0.le L3_4) (rfl)) rfl rfl rfl (rfl) rfl rfl ?_
            by_cases q6 : h.2.2.2.2.1 = 0
            · refine W.rdg (Any.rd (.dec (.eql rfl rfl) (decide_eq_true (by omega))) _) rfl rfl rfl (rfl) rfl rfl ?_
              refine W.rdg (Any.rd (.move rfl) _) rfl rfl rfl (rfl) rfl rfl ?_
              refine W.skip rfl rfl rfl (rfl) rfl rfl ?_
              refine W.skip rfl rfl rfl (rfl) rfl rfl ?_
              refine W.skip rfl rfl rfl (rfl) rfl rfl ?_
              refine W.rdg (Any.rd (.pickT rfl rfl rfl) _) rfl rfl rfl (rfl) rfl rfl ?_
              refine W.any (.pickT rfl rfl rfl) rfl rfl rfl ?_
              refine W.any (.assign rfl) rfl rfl rfl ?_
              refine W.nil ?_
              refine E.thenN ?_
              refine WC.ret ?_
              refine E.ret1 rfl rfl ?_
              exact ⟨by rw [mayB, decide_eq_true q1, decide_eq_true q2, decide_eq_true q3, decide_eq_true q4, decide_eq_true q5, decide_eq_true q6]; rfl, h0_0.trans L3_4⟩
            · refine W.rdg (Any.rd (.dec (.eql rfl rfl) (decide_eq_false (by omega))) _) rfl rfl rfl (rfl) rfl rfl ?_
              refine W.rdg (Any.rd (.move rfl) _) rfl rfl rfl (rfl) rfl rfl ?_
              refine W.rdg (Any.rd (.field0 fa95_4 rfl) _) rfl rfl rfl (rfl) rfl rfl ?_
              refine W.rdg (.loadB na31 rfl (b0_0.le L3_4) (rfl)) rfl rfl rfl (rfl) rfl rfl ?_
              refine W.efg rfl rfl rfl (rfl) rfl rfl ?_
              refine Ef.call go90 rfl rfl (pright_ok _ ho.2.2.2.2.1 w3_4) ?_
              rintro _ w3_13 ⟨rfl, h3_13⟩
              refine ⟨_, rfl, ?_⟩
              have L3_13 := L3_4.trans h3_13
              refine W.rdg (Any.rd (.pickF rfl rfl rfl) _) rfl rfl rfl (rfl) rfl rfl ?_
              refine W.any (.pickT rfl rfl rfl) rfl rfl rfl ?_
              refine W.any (.assign rfl) rfl rfl rfl ?_
              refine W.nil ?_
              refine E.thenN ?_
              refine WC.ret ?_
              refine E.ret1 rfl rfl ?_
              exact ⟨by rw [mayB, decide_eq_true q1, decide_eq_true q2, decide_eq_true q3, decide_eq_true q4, decide_eq_true q5, decide_eq_false q6]; rfl, h0_0.trans L3_13⟩
          · refine W.efg rfl rfl rfl (rfl) rfl rfl ?_
            refine Ef.call go60 rfl rfl (fright_F _ q5 w2_20) ?_
            rintro _ w3_4 ⟨rfl, h3_4⟩
            refine ⟨_, rfl, ?_⟩
            have L3_4 := L2_20.trans h3_4
            refine W.any (.pickT rfl rfl rfl) rfl rfl rfl ?_
            refine W.any (.move rfl) rfl rfl rfl ?_
            refine W.skip rfl rfl rfl (rfl) rfl rfl ?_
            refine W.skip rfl rfl rfl (rfl) rfl rfl ?_
            refine W.skip rfl rfl rfl (rfl) rfl rfl ?_
            refine W.skip rfl rfl rfl (rfl) rfl rfl ?_
            refine W.skipu rfl rfl rfl rfl rfl ?_
            refine W.skipu rfl rfl rfl rfl rfl ?_
            refine W.skipu rfl rfl rfl rfl rfl ?_
            refine W.skip rfl rfl rfl (rfl) rfl rfl ?_
            refine W.any (.pickF rfl rfl rfl) rfl rfl rfl ?_
            refine W.any (.assign rfl) rfl rfl rfl ?_
            refine W.nil ?_
            refine E.thenN ?_
            refine WC.ret ?_
            refine E.ret1 rfl rfl ?_
            exact ⟨by rw [mayB, decide_eq_true q1, decide_eq_true q2, decide_eq_true q3, decide_eq_true q4, decide_eq_false q5]; rfl, h0_0.trans L3_4⟩
        · refine W.efg rfl rfl rfl (rfl) rfl rfl ?_
          refine Ef.call go144 rfl rfl (within_F _ _ _ q4 w2_14) ?_
          rintro _ w2_20 ⟨rfl, h2_20⟩
          refine ⟨_, rfl, ?_⟩
          have L2_20 := L2_14.trans h2_20
          refine W.any (.pickT rfl rfl rfl) rfl rfl rfl ?_
          refine W.any (.assign rfl) rfl rfl rfl ?_
          refine W.nil ?_
          refine E.thenN ?_
          refine WC.seq ?_
          refine WC.region ?_
          refine W.any (.move rfl) rfl rfl rfl ?_
          refine W.any (.move rfl) rfl rfl rfl ?_
          refine W.skip rfl rfl rfl (rfl) rfl rfl ?_
          refine W.skip rfl rfl rfl (rfl) rfl rfl ?_
          refine W.skip rfl rfl rfl (rfl) rfl rfl ?_
          refine W.any (.pickF rfl rfl rfl) rfl rfl rfl ?_
          refine W.any (.move rfl) rfl rfl rfl ?_
          refine W.skip rfl rfl rfl (rfl) rfl rfl ?_
          refine W.skip rfl rfl rfl (rfl) rfl rfl ?_
          refine W.skip rfl rfl rfl (rfl) rfl rfl ?_
          refine W.skip rfl rfl rfl (rfl) rfl rfl ?_
          refine W.skipu rfl rfl rfl rfl rfl ?_
          refine W.skipu rfl rfl rfl rfl rfl ?_
          refine W.skipu rfl rfl rfl rfl rfl ?_
          refine W.skip rfl rfl rfl (rfl) rfl rfl ?_
          refine W.any (.pickF rfl rfl rfl) rfl rfl rfl ?_
          refine W.any (.assign rfl) rfl rfl rfl ?_
          refine W.nil ?_
          refine E.thenN ?_
          refine WC.ret ?_
          refine E.ret1 rfl rfl ?_
          exact ⟨by rw [mayB, decide_eq_false q4, Bool.and_false, Bool.false_and], h0_0.trans L2_20⟩
      · refine W.efg rfl rfl rfl (rfl) rfl rfl ?_
        refine Ef.call go144 rfl rfl (within_F _ _ _ q3 w2_8) ?_
        rintro _ w2_14 ⟨rfl, h2_14⟩
        refine ⟨_, rfl, ?_⟩
        have L2_14 := L2_8.trans h2_14
        refine W.any (.pickT rfl rfl rfl) rfl rfl rfl ?_
        refine W.any (.move rfl) rfl rfl rfl ?_
        refine W.skip rfl rfl rfl (rfl) rfl rfl ?_
        refine W.skip rfl rfl rfl (rfl) rfl rfl ?_
        refine W.skip rfl rfl rfl (rfl) rfl rfl ?_
        refine W.skip rfl rfl rfl (rfl) rfl rfl ?_
        refine W.any (.pickF rfl rfl rfl) rfl rfl rfl ?_
        refine W.any (.assign rfl) rfl rfl rfl ?_
        refine W.nil ?_
        refine E.thenN ?_
        refine WC.seq ?_
        refine WC.region ?_
        refine W.any (.move rfl) rfl rfl rfl ?_
        refine W.any (.move rfl) rfl rfl rfl ?_
        refine W.skip rfl rfl rfl (rfl) rfl rfl ?_
        refine W.skip rfl rfl rfl (rfl) rfl rfl ?_
        refine W.skip rfl rfl rfl (rfl) rfl rfl ?_
        refine W.any (.pickF rfl rfl rfl) rfl rfl rfl ?_
        refine W.any (.move rfl) rfl rfl rfl ?_
        refine W.skip rfl rfl rfl (rfl) rfl rfl ?_
        refine W.skip rfl rfl rfl (rfl) rfl rfl ?_
        refine W.skip rfl rfl rfl (rfl) rfl rfl ?_
        refine W.skip rfl rfl rfl (rfl) rfl rfl ?_
        refine W.skipu rfl rfl rfl rfl rfl ?_
        refine W.skipu rfl rfl rfl rfl rfl ?_
        refine W.skipu rfl rfl rfl rfl rfl ?_
        refine W.skip rfl rfl rfl (rfl) rfl rfl ?_
        refine W.any (.pickF rfl rfl rfl) rfl rfl rfl ?_
        refine W.any (.assign rfl) rfl rfl rfl ?_
        refine W.nil ?_
        refine E.thenN ?_
        refine WC.ret ?_
        refine E.ret1 rfl rfl ?_
        exact ⟨by rw [mayB, decide_eq_false q3, Bool.and_false, Bool.false_and, Bool.false_and], h0_0.trans L2_14⟩
    · refine W.efg rfl rfl rfl (rfl) rfl rfl ?_
      refine Ef.call go144 rfl rfl (within_F _ _ _ q2 w2_3) ?_
      rintro _ w2_8 ⟨rfl, h2_8⟩
      refine ⟨_, rfl, ?_⟩
      have L2_8 := L2_3.trans h2_8
      refine W.any (.pickT rfl rfl rfl) rfl rfl rfl ?_
      refine W.any (.move rfl) rfl rfl rfl ?_
      refine W.skip rfl rfl rfl (rfl) rfl rfl ?_
      refine W.skip rfl rfl rfl (rfl) rfl rfl ?_
      refine W.skip rfl rfl rfl (rfl) rfl rfl ?_
      refine W.skip rfl rfl rfl (rfl) rfl rfl ?_
      refine W.any (.pickF rfl rfl rfl) rfl rfl rfl ?_
      refine W.any (.move rfl) rfl rfl rfl ?_
      refine W.skip rfl rfl rfl (rfl) rfl rfl ?_
      refine W.skip rfl rfl rfl (rfl) rfl rfl ?_
      refine W.skip rfl rfl rfl (rfl) rfl rfl ?_
      refine W.skip rfl rfl rfl (rfl) rfl rfl ?_
      refine W.any (.pickF rfl rfl rfl) rfl rfl rfl ?_
      refine W.any (.assign rfl) rfl rfl rfl ?_
      refine W.nil ?_
      refine E.thenN ?_
      refine WC.seq ?_
      refine WC.region ?_
      refine W.any (.move rfl) rfl rfl rfl ?_
      refine W.any (.move rfl) rfl rfl rfl ?_
      refine W.skip rfl rfl rfl (rfl) rfl rfl ?_
      refine W.skip rfl rfl rfl (rfl) rfl rfl ?_
      refine W.skip rfl rfl rfl (rfl) rfl rfl ?_
      refine W.any (.pickF rfl rfl rfl) rfl rfl rfl ?_
      refine W.any (.move rfl) rfl rfl rfl ?_
      refine W.skip rfl rfl rfl (rfl) rfl rfl ?_
      refine W.skip rfl rfl rfl (rfl) rfl rfl ?_
      refine W.skip rfl rfl rfl (rfl) rfl rfl ?_
      refine W.skip rfl rfl rfl (rfl) rfl rfl ?_
      refine W.skipu rfl rfl rfl rfl rfl ?_
      refine W.skipu rfl rfl rfl rfl rfl ?_
      refine W.skipu rfl rfl rfl rfl rfl ?_
      refine W.skip rfl rfl rfl (rfl) rfl rfl ?_
      refine W.any (.pickF rfl rfl rfl) rfl rfl rfl ?_
      refine W.any (.assign rfl) rfl rfl rfl ?_
      refine W.nil ?_
      refine E.thenN ?_
      refine WC.ret ?_
      refine E.ret1 rfl rfl ?_
      exact ⟨by rw [mayB, decide_eq_false q2, Bool.and_false, Bool.false_and, Bool.false_and, Bool.false_and], h0_0.trans L2_8⟩
  · refine W.ef rfl rfl rfl ?_
    refine Ef.call go144 rfl rfl (within_F _ _ _ q1 w0_0) ?_
    rintro _ w2_3 ⟨rfl, h2_3⟩
    refine ⟨_, rfl, ?_⟩
    have L2_3 := LL.trans h2_3
    refine W.any (.move rfl) rfl rfl rfl ?_
    refine W.skip rfl rfl rfl (rfl) rfl rfl ?_
    refine W.skip rfl rfl rfl (rfl) rfl rfl ?_
    refine W.skip rfl rfl rfl (rfl) rfl rfl ?_
    refine W.skip rfl rfl rfl (rfl) rfl rfl ?_
    refine W.any (.pickF rfl rfl rfl) rfl rfl rfl ?_
    refine W.any (.move rfl) rfl rfl rfl ?_
    refine W.skip rfl rfl rfl (rfl) rfl rfl ?_
    refine W.skip rfl rfl rfl (rfl) rfl rfl ?_
    refine W.skip rfl rfl rfl (rfl) rfl rfl ?_
    refine W.skip rfl rfl rfl (rfl) rfl rfl ?_
    refine W.any (.pickF rfl rfl rfl) rfl rfl rfl ?_
    refine W.any (.move rfl) rfl rfl rfl ?_
    refine W.skip rfl rfl rfl (rfl) rfl rfl ?_
    refine W.skip rfl rfl rfl (rfl) rfl rfl ?_
    refine W.skip rfl rfl rfl (rfl) rfl rfl ?_
    refine W.skip rfl rfl rfl (rfl) rfl rfl ?_
    refine W.any (.pickF rfl rfl rfl) rfl rfl rfl ?_
    refine W.any (.assign rfl) rfl rfl rfl ?_
    refine W.nil ?_
    refine E.thenN ?_
    refine WC.seq ?_
    refine WC.region ?_
    refine W.any (.move rfl) rfl rfl rfl ?_
    refine W.any (.move rfl) rfl rfl rfl ?_
    refine W.skip rfl rfl rfl (rfl) rfl rfl ?_
    refine W.skip rfl rfl rfl (rfl) rfl rfl ?_
    refine W.skip rfl rfl rfl (rfl) rfl rfl ?_
    refine W.any (.pickF rfl rfl rfl) rfl rfl rfl ?_
    refine W.any (.move rfl) rfl rfl rfl ?_
    refine W.skip rfl rfl rfl (rfl) rfl rfl ?_
    refine W.skip rfl rfl rfl (rfl) rfl rfl ?_
    refine W.skip rfl rfl rfl (rfl) rfl rfl ?_
    refine W.skip rfl rfl rfl (rfl) rfl rfl ?_
    refine W.skipu rfl rfl rfl rfl rfl ?_
    refine W.skipu rfl rfl rfl rfl rfl ?_
    refine W.skipu rfl rfl rfl rfl rfl ?_
    refine W.skip rfl rfl rfl (rfl) rfl rfl ?_
    refine W.any (.pickF rfl rfl rfl) rfl rfl rfl ?_
    refine W.any (.assign rfl) rfl rfl rfl ?_
    refine W.nil ?_
    refine E.thenN ?_
    refine WC.ret ?_
    refine E.ret1 rfl rfl ?_
    exact ⟨by rw [mayB, decide_eq_false q1, Bool.false_and, Bool.false_and, Bool.false_and, Bool.false_and], h0_0.trans L2_3⟩

theorem grow_ok (m : Nat) (h0 : 0 < m) (hm : m ≤ 1000000) (w : World) : Calls Try.prog 147 #[.slice none 0 0, .int .i64 (m : Int)] w fun e w' => ∃ A c, e = .returned (.slice A 0 c) ∧ Own w' w.heap.size 5 1 A 0 c [] ∧ Le w w' := by
  refine enter Try.func147 rfl rfl ?_
  have L0 := Le.refl w
  refine WC.seq ?_
  refine WC.region ?_
  refine W.any (.assign rfl) rfl rfl rfl ?_
  refine W.nil ?_
  refine E.thenN ?_
  refine WC.seq ?_
  refine WC.seq ?_
  refine WC.region ?_
  refine W.any (.move rfl) rfl rfl rfl ?_
  refine W.any (.lss rfl rfl) rfl rfl rfl ?_
  refine W.nil ?_
  refine E.thenN ?_
  refine WC.condB rfl (fun h => absurd h (by simp)) (fun _ => ?_)
  refine WC.skip ?_
  refine E.thenN ?_
  refine WC.seq ?_
  refine WC.seq ?_
  refine WC.region ?_
  refine W.any (.move rfl) rfl rfl rfl ?_
  refine W.any (.move rfl) rfl rfl rfl ?_
  refine W.rd (.cap Try.underlying107 rfl rfl) rfl rfl rfl ?_
  refine W.any (.move rfl) rfl rfl rfl ?_
  refine W.rd (.len Try.underlying107 rfl) rfl rfl rfl ?_
  refine W.any (.sub rfl rfl (by omega)) rfl rfl rfl ?_
  refine W.any (.sub rfl rfl (by omega)) rfl rfl rfl ?_
  refine W.any (.assign rfl) rfl rfl rfl ?_
  refine W.nil ?_
  refine E.thenN ?_
  refine WC.seq ?_
  refine WC.region ?_
  refine W.any (.move rfl) rfl rfl rfl ?_
  refine W.any (.gtr rfl rfl) rfl rfl rfl ?_
  refine W.nil ?_
  refine E.thenN ?_
  refine WC.condB rfl (fun _ => ?_) (fun h => absurd h (by simp; omega))
  refine WC.region ?_
  refine W.any (.move rfl) rfl rfl rfl ?_
  refine W.any (.move rfl) rfl rfl rfl ?_
  refine W.rd (.cap Try.underlying107 rfl rfl) rfl rfl rfl ?_
  refine W.any (.cutH (0) Try.underlying107 sz5 rfl rfl (rfl) (by decide)) rfl rfl rfl ?_
  refine W.any (.move rfl) rfl rfl rfl ?_
  refine W.ef rfl rfl rfl ?_
  refine Ef.appendZ m Try.underlying107 Try.underlying3 el5 rfl rfl (Own.nil _ _ _ _ _) rfl (by omega) h0 (by omega) (by unfold maxLen; omega) (Nat.le_refl _) ?_
  intro A5 c5 w5_5 o5 h5_5 at5
  have L5_5 : Le w w5_5 := L0.then_ h5_5 (fun q hq => by simp [rowOf_zero] at hq)
  refine W.any (.move rfl) rfl rfl rfl ?_
  refine W.rd (.len Try.underlying107 rfl) rfl rfl rfl ?_
  refine W.any (.cutH (0) Try.underlying107 sz5 rfl rfl (rfl) (Nat.zero_le _)) rfl rfl rfl ?_
  refine W.any (.assign rfl) rfl rfl rfl ?_
  refine W.nil ?_
  refine E.thenN ?_
  refine WC.seq ?_
  refine WC.region ?_
  refine W.any (.move rfl) rfl rfl rfl ?_
  refine W.any (.assign rfl) rfl rfl rfl ?_
  refine W.nil ?_
  refine E.thenN ?_
  refine WC.ret ?_
  refine E.ret1 rfl rfl ?_
  exact ⟨A5, c5, rfl, (o5.front 0 (Nat.zero_le _)).cast rfl (by simp), L5_5⟩

theorem concat_ok {A : Option Addr} {n c : Nat} {vs : List Value} {ps : List (List Byte)} (w : World) (hV : Sl w 1 A n vs) (hP : Parts w vs ps) (h0 : 0 < ps.flatten.length) (hT : ps.flatten.length ≤ 1000000) (hn : n ≤ 1000) : Calls Try.prog 110 #[.slice A n c] w fun e w' => ∃ A' c', e = .returned (.slice A' ps.flatten.length c') ∧ Own w' w.heap.size 5 1 A' ps.flatten.length c' (ps.flatten.map u8v) ∧ Le w w' := by
  have hvl := hV.1
  rw [Nat.mul_one] at hvl
  have hpl := hP.1
  have hgr : ∀ w, Calls Try.prog 147 #[.slice none 0 0, .int .i64 (((ps.take n).flatten.length : Nat) : Int)] w fun e w' => ∃ A c, e = .returned (.slice A 0 c) ∧ Own w' w.heap.size 5 1 A 0 c [] ∧ Le w w' := fun w => by
    rw [List.take_of_length_le (by omega)]
    exact grow_ok _ h0 hT w
  refine enter Try.func110 rfl rfl ?_
  have L0 := Le.refl w
  refine WC.seq ?_
  refine WC.region ?_
  refine W.any (.assign rfl) rfl rfl rfl ?_
  refine W.nil ?_
  refine E.thenN ?_
  refine WC.seq ?_
  refine WC.region ?_
  refine W.any (.assign rfl) rfl rfl rfl ?_
  refine W.nil ?_
  refine E.thenN ?_
  refine WC.seq ?_
  refine WC.seq ?_
  refine WC.region ?_
  refine W.any (.move rfl) rfl rfl rfl ?_
  refine W.rd (.len Try.underlying211 rfl) rfl rfl rfl ?_
  refine W.any (.move rfl) rfl rfl rfl ?_
  refine W.nil ?_
  refine E.thenN ?_
  refine WC.block ?_
  refine WC.loop (ι := Nat) (fun k => [(0, .slice A n c), (3, .int .i64 (((ps.take k).flatten.length : Nat) : Int)), (9, .slice A n c), (10, .int .i64 (n : Int)), (11, .int .i64 (k : Int))]) (fun k wl => k ≤ n ∧ Le w wl) (fun k => n - k) 0 ?_ ?_ ?_
  · exact .cons rfl (.cons rfl (.cons rfl (.cons rfl (.cons rfl (.nil _)))))
  · exact ⟨Nat.zero_le _, L0⟩
  · rintro k wl ⟨hk, Ll⟩
    have hle := flatten_take_le ps k
    refine WC.seq ?_
    refine WC.region ?_
    refine W.any (.lss rfl rfl) rfl rfl rfl ?_
    refine W.nil ?_
    refine E.thenN ?_
    refine WC.seq ?_
    refine WC.cond rfl (fun c0 => ?_) (fun c0 => ?_)
    · obtain ⟨q, hq⟩ : ∃ q, ps[k]? = some q := ⟨_, List.getElem?_eq_getElem (by omega)⟩
      obtain ⟨v, hv⟩ : ∃ v, vs[k]? = some v := ⟨_, List.getElem?_eq_getElem (by omega)⟩
      obtain ⟨Aq, cq, rfl, hq2⟩ := hP.2 k v q hv hq
      have hle2 := flatten_take_le ps (k + 1)
      rw [flatten_snoc ps k q hq, List.length_append] at hle2
      refine WC.skip ?_
      refine E.thenN ?_
      refine WC.seq ?_
      refine WC.block ?_
      refine WC.seq ?_
      refine WC.region ?_
      refine W.any (.idxS1 (k) Try.underlying211 sz107 rfl rfl (hV.isSome (j := k) (by omega) (by decide)) (rfl) (by omega)) rfl rfl rfl ?_
      refine W.rd (.loadS na107 rfl (hV.le Ll) (hv)) rfl rfl rfl ?_
      refine W.any (.assign rfl) rfl rfl rfl ?_
      refine W.nil ?_
      refine E.thenN ?_
      refine WC.seq ?_
      refine WC.region ?_
      refine W.any (.move rfl) rfl rfl rfl ?_
      refine W.any (.move rfl) rfl rfl rfl ?_
      refine W.rd (.len Try.underlying107 rfl) rfl rfl rfl ?_
      refine W.any (.add rfl rfl (by omega)) rfl rfl rfl ?_
      refine W.any (.assign rfl) rfl rfl rfl ?_
      refine W.nil ?_
      refine E.thenN ?_
      refine WC.seq ?_
      refine WC.region ?_
      refine W.any (.move rfl) rfl rfl rfl ?_
      refine W.any (.lss rfl rfl) rfl rfl rfl ?_
      refine W.nil ?_
      refine E.thenN ?_
      refine WC.condB rfl (fun h => absurd h (by simp; omega)) (fun _ => ?_)
      refine WC.skip ?_
      refine E.blkN ?_
      refine E.thenN ?_
      refine WC.region ?_
      refine W.any (.add rfl rfl (by omega)) rfl rfl rfl ?_
      refine W.any (.move rfl) rfl rfl rfl ?_
      refine W.nil ?_
      refine E.again (k + 1) (.cons rfl (.cons' rfl (int_eq (by rw [flatten_snoc ps k q hq, List.length_append, Int.natCast_add])) (.cons rfl (.cons rfl (.cons rfl (.nil _)))))) ?_ ?_
      · exact ⟨by omega, Ll⟩
      · first | omega | (simp only []; omega)
    · have hkn : n = k := by omega
      subst hkn
      rw [List.take_of_length_le (by omega)] at hle
      refine WC.exit ?_
      refine E.thenX ?_
      refine E.thenX ?_
      refine E.blkH ?_
      refine E.thenN ?_
      refine WC.seq ?_
      refine WC.region ?_
      refine W.any (.move rfl) rfl rfl rfl ?_
      refine W.ef rfl rfl rfl ?_
      refine Ef.call go147 rfl rfl (hgr wl) ?_
      rintro _ w9_1 ⟨A9, c9, rfl, o9, h9_1⟩
      refine ⟨_, rfl, ?_⟩
      have L9_1 := Ll.trans h9_1
      have o9 := o9.mono Ll.size
      refine W.any (.assign rfl) rfl rfl rfl ?_
      refine W.nil ?_
      refine E.thenN ?_
      refine WC.seq ?_
      refine WC.seq ?_
      refine WC.region ?_
      refine W.any (.move rfl) rfl rfl rfl ?_
      refine W.rd (.len Try.underlying211 rfl) rfl rfl rfl ?_
      refine W.any (.move rfl) rfl rfl rfl ?_
      refine W.nil ?_
      refine E.thenN ?_
      refine WC.block ?_
      refine WC.loop (ι := Nat × Option Addr × Nat) (fun ⟨k, A1, c1⟩ => [(6, .slice A1 ((ps.take k).flatten.length) c1), (25, .slice A n c), (26, .int .i64 (n : Int)), (27, .int .i64 (k : Int))]) (fun ⟨k, A1, c1⟩ wm => k ≤ n ∧ Le w wm ∧ Own wm w.heap.size 5 1 A1 ((ps.take k).flatten.length) c1 ((ps.take k).flatten.map u8v)) (fun ⟨k, A1, c1⟩ => n - k) (0, A9, c9) ?_ ?_ ?_
      · exact .cons rfl (.cons rfl (.cons rfl (.cons rfl (.nil _))))
      · exact ⟨Nat.zero_le _, L9_1, o9⟩
      · rintro ⟨k, A1, c1⟩ wm ⟨hk, Lm, om⟩
        refine WC.seq ?_
        refine WC.region ?_
        refine W.any (.lss rfl rfl) rfl rfl rfl ?_
        refine W.nil ?_
        refine E.thenN ?_
        refine WC.seq ?_
        refine WC.cond rfl (fun c2 => ?_) (fun c2 => ?_)
        · obtain ⟨q, hq⟩ : ∃ q, ps[k]? = some q := ⟨_, List.getElem?_eq_getElem (by omega)⟩
          obtain ⟨v, hv⟩ : ∃ v, vs[k]? = some v := ⟨_, List.getElem?_eq_getElem (by omega)⟩
          obtain ⟨Aq, cq, rfl, hq2⟩ := hP.2 k v q hv hq
          have hle2 := flatten_take_le ps (k + 1)
          rw [flatten_snoc ps k q hq, List.length_append] at hle2
          refine WC.skip ?_
          refine E.thenN ?_
          refine WC.seq ?_
          refine WC.block ?_
          refine WC.seq ?_
          refine WC.region ?_
          refine W.any (.idxS1 (k) Try.underlying211 sz107 rfl rfl (hV.isSome (j := k) (by omega) (by decide)) (rfl) (by omega)) rfl rfl rfl ?_
          refine W.rd (.loadS na107 rfl (hV.le Lm) (hv)) rfl rfl rfl ?_
          refine W.any (.assign rfl) rfl rfl rfl ?_
          refine W.nil ?_
          refine E.thenN ?_
          refine WC.region ?_
          refine W.any (.move rfl) rfl rfl rfl ?_
          refine W.any (.move rfl) rfl rfl rfl ?_
          refine W.ef rfl rfl rfl ?_
          refine Ef.append Try.underlying107 el5 rfl (om) rfl ((hq2.le Lm).src Try.underlying107 _) (by omega) (by unfold maxLen; omega) (Lm.size) ?_
          intro A13_2 c13_2 w13_2 o13_2 h13_2 at13_2
          have L13_2 : Le w w13_2 := Lm.then_ h13_2 (fun q hq => (om.row hq).1)
          refine W.any (.assign rfl) rfl rfl rfl ?_
          refine W.nil ?_
          refine E.blkN ?_
          refine E.thenN ?_
          refine WC.region ?_
          refine W.any (.add rfl rfl (by omega)) rfl rfl rfl ?_
          refine W.any (.move rfl) rfl rfl rfl ?_
          refine W.nil ?_
          refine E.again (k + 1, A13_2, c13_2) (.cons' rfl (slice_eq (by rw [flatten_snoc ps k q hq, List.length_append])) (.cons rfl (.cons rfl (.cons rfl (.nil _))))) ?_ ?_
          · exact ⟨by omega, L13_2, o13_2.cast (by rw [flatten_snoc ps k q hq, List.length_append]) (by rw [flatten_snoc ps k q hq, List.map_append])⟩
          · first | omega | (simp only []; omega)
        · have hkn : n = k := by omega
          subst hkn
          rw [List.take_of_length_le (by omega)] at om
          refine WC.exit ?_
          refine E.thenX ?_
          refine E.thenX ?_
          refine E.blkH ?_
          refine E.thenN ?_
          refine WC.seq ?_
          refine WC.region ?_
          refine W.any (.move rfl) rfl rfl rfl ?_
          refine W.any (.assign rfl) rfl rfl rfl ?_
          refine W.nil ?_
          refine E.thenN ?_
          refine WC.ret ?_
          refine E.ret1 rfl rfl ?_
          exact ⟨A1, c1, by rw [List.take_of_length_le (by omega)], om, Lm⟩
end Go.Proofs.Ytfgakofjkldcjaa

namespace Go.Proofs.Ytfgakofjkldcjaa
open Go Go.Sx Go.Hsp Go.Num Go.Osp
set_option maxRecDepth 20000
def pv (k : Nat) : Value := .int .u64 (k : Nat)
theorem getp (ks : List Nat) {k : Nat} (h : k < ks.length) : (ks.map pv)[k]? = some (pv (ks.getD k 0)) := by simp [h, List.getD]
theorem getn (ks : List Nat) {k : Nat} (h : k < ks.length) : ks[k]? = some (ks.getD k 0) := by simp [h, List.getD]
/-- The exponent behind keys. -/
def xAt : Nat → List Nat → Nat
  | x, [] => x
  | x, k :: ks => xAt (nextX x k) ks
theorem xAt_snoc (x : Nat) (ks : List Nat) (k : Nat) (key : Nat) (h : ks[k]? = some key) : xAt x (ks.take (k + 1)) = nextX (xAt x (ks.take k)) key := by
  have ap : ∀ (l m : List Nat) (x : Nat), xAt x (l ++ m) = xAt (xAt x l) m := by
    intro l
    induction l with
    | nil => intro m n; rfl
    | cons c l ih => intro m n; exact ih m _
  rw [List.take_add_one, h, ap]; rfl
theorem wayB_append : ∀ (l m : List Nat) (x : Nat), wayB x (l ++ m) = wayB x l ++ wayB (xAt x l) m
  | [], _, _ => rfl
  | k :: l, m, x => by rw [List.cons_append, wayB, wayB, wayB_append l m, List.cons_append]; rfl
theorem wayB_snoc (x : Nat) (ks : List Nat) (k : Nat) (key : Nat) (h : ks[k]? = some key) : wayB x (ks.take (k + 1)) = wayB x (ks.take k) ++ [stopB (xAt x (ks.take k)) key] := by
  rw [List.take_add_one, h, wayB_append]; rfl
theorem wayB_sum : ∀ (ks : List Nat) (x : Nat), ∀ s ∈ wayB x ks, s.2.length = 32
  | [], _, s, hs => by simp [wayB] at hs
  | k :: ks, x, s, hs => by
    simp only [wayB, List.mem_cons] at hs
    rcases hs with rfl | hs
    · exact sharedB_length _
    · exact wayB_sum ks _ s hs
theorem keyOk_yes {k : Nat} (h1 : ¬ k = 1) (h2 : right k = true) : keyOk k = true := by rw [keyOk, h2, decide_eq_true h1]; rfl
theorem keyOk_no {k : Nat} (h2 : right k = false) : keyOk k = false := by rw [keyOk, h2, Bool.and_false]
def stopRows (l : List Stop) : List (List Value) := l.map stopV
theorem stopRows_len (l : List Stop) (h : ∀ s ∈ l, s.2.length = 32) : ∀ r ∈ stopRows l, r.length = 33 := fun r hr => by
  obtain ⟨s, hs, rfl⟩ := List.mem_map.1 hr
  exact stopV_length s (h s hs)
theorem fillTo_snoc (l : List Stop) (k : Nat) (s : Stop) (h : l[k]? = some s) : fillTo [] (l.take (k + 1)) = fillS (fillTo [] (l.take k)) s := by
  rw [List.take_add_one, h, fillTo_append]; rfl
theorem keys_all (ks : List Nat) (k key : Nat) (h : ks[k]? = some key) (ha : (ks.take k).all keyOk = true) : (ks.take (k + 1)).all keyOk = keyOk key := by
  rw [List.take_add_one, h, List.all_append, ha]; simp
theorem key_bad (ks : List Nat) (k key : Nat) (h : ks[k]? = some key) (hb : keyOk key = false) : keysOk ks = false := by
  have : ks.all keyOk = false := by
    rw [← Bool.not_eq_true, List.all_eq_true]
    intro ha
    have := ha key (List.mem_of_getElem? h)
    rw [hb] at this; cases this
  rw [keysOk, this, Bool.and_false]
theorem concat_to {A : Option Addr} {n c : Nat} {vs : List Value} {ps : List (List Byte)} (l : List Byte) (m : Nat) (w : World) (hV : Sl w 1 A n vs) (hP : Parts w vs ps) (hfl : ps.flatten = l) (hm : l.length = m) (h0 : 0 < m) (hT : m ≤ 1000000) (hn : n ≤ 1000) : Calls Try.prog 110 #[.slice A n c] w fun e w' => ∃ A' c', e = .returned (.slice A' m c') ∧ Own w' w.heap.size 5 1 A' m c' (l.map u8v) ∧ Le w w' := by
  subst hfl hm
  exact concat_ok w hV hP h0 hT hn
theorem one6 {A B C D E F : Option Addr} {a b c d e f a' b' c' d' e' f' : Nat} : ∀ v ∈ [Value.slice A a a', Value.slice B b b', Value.slice C c c', Value.slice D d d', Value.slice E e e', Value.slice F f f'], v.oneCell' = true := fun v hv => by
  simp at hv; rcases hv with rfl | rfl | rfl | rfl | rfl | rfl <;> rfl
theorem one3 {A B C : Option Addr} {a b c a' b' c' : Nat} : ∀ v ∈ [Value.slice A a a', Value.slice B b b', Value.slice C c c'], v.oneCell' = true := fun v hv => by
  simp at hv; rcases hv with rfl | rfl | rfl <;> rfl

theorem lay_ok (h : Hop) (w : World) : Calls Try.prog 111 #[.agg (hopV h).toArray] w fun e w' => ∃ A' c', e = .returned (.slice A' 48 c') ∧ Own w' w.heap.size 5 1 A' 48 c' ((layB h).map u8v) ∧ Le w w' := by
  refine enter Try.func111 rfl rfl ?_
  have L0 := Le.refl w
  refine WC.seq ?_
  refine WC.region ?_
  refine W.ef rfl rfl rfl ?_
  refine Ef.boxA rfl ?_
  intro g0_0 w0_0 hg0_0 b0_0 h0_0
  have L0_0 := L0.trans h0_0
  have LL := Le.refl w0_0
  refine W.any (.assign rfl) rfl rfl rfl ?_
  refine W.nil ?_
  refine E.thenN ?_
  refine WC.seq ?_
  refine WC.draw [0, 1, 2, 4, 5, 6, 8, 9, 10, 12, 13, 14, 16, 17, 19, 20, 3, 7, 11, 15, 18, 21, 22, 23, 24] mixed (by kernel_rfl) ?_
  intro w1 d1
  have L1 := LL.trans d1
  refine G.any rfl rfl (.field0 fa95_0 rfl) rfl rfl rfl ?_
  refine G.rd rfl rfl (.loadB na3 rfl (b0_0.le L1) (rfl)) rfl rfl rfl ?_
  refine G.rd rfl rfl (.convEq (isS Try.underlying3) Try.underlying29 rfl (wrap_usg _)) rfl rfl rfl ?_
  refine G.any rfl rfl (.field0 fa95_1 rfl) rfl rfl rfl ?_
  refine G.rd rfl rfl (.loadB na3 rfl (b0_0.le L1) (rfl)) rfl rfl rfl ?_
  refine G.rd rfl rfl (.convEq (isS Try.underlying3) Try.underlying29 rfl (wrap_usg _)) rfl rfl rfl ?_
  refine G.any rfl rfl (.field0 fa95_2 rfl) rfl rfl rfl ?_
  refine G.rd rfl rfl (.loadB na3 rfl (b0_0.le L1) (rfl)) rfl rfl rfl ?_
  refine G.rd rfl rfl (.convEq (isS Try.underlying3) Try.underlying29 rfl (wrap_usg _)) rfl rfl rfl ?_
  refine G.any rfl rfl (.field0 fa95_3 rfl) rfl rfl rfl ?_
  refine G.rd rfl rfl (.loadB na3 rfl (b0_0.le L1) (rfl)) rfl rfl rfl ?_
  refine G.rd rfl rfl (.convEq (isS Try.underlying3) Try.underlying29 rfl (wrap_usg _)) rfl rfl rfl ?_
  refine G.any rfl rfl (.field0 fa95_4 rfl) rfl rfl rfl ?_
  refine G.rd rfl rfl (.loadB na31 rfl (b0_0.le L1) (rfl)) rfl rfl rfl ?_
  refine G.any rfl rfl (.field0 fa95_5 rfl) rfl rfl rfl ?_
  refine G.rd rfl rfl (.loadB na30 rfl (b0_0.le L1) (rfl)) rfl rfl rfl ?_
  refine G.ef rfl rfl rfl rfl rfl ?_
  refine Ef.call go115 rfl rfl (eight_ok (usg h.1) w1) ?_
  rintro _ w1_3 ⟨g3, rfl, hg3, B3, h1_3⟩
  refine ⟨_, rfl, ?_⟩
  have L1_3 := L1.trans h1_3
  refine ⟨fun _ => h1_3, ?_⟩
  refine G.ef rfl rfl rfl rfl rfl ?_
  refine Ef.call go115 rfl rfl (eight_ok (usg h.2.1) w1_3) ?_
  rintro _ w1_7 ⟨g7, rfl, hg7, B7, h1_7⟩
  refine ⟨_, rfl, ?_⟩
  have L1_7 := L1_3.trans h1_7
  refine ⟨fun _ => h1_7, ?_⟩
  have B3 := B3.le h1_7
  refine G.ef rfl rfl rfl rfl rfl ?_
  refine Ef.call go115 rfl rfl (eight_ok (usg h.2.2.1) w1_7) ?_
  rintro _ w1_11 ⟨g11, rfl, hg11, B11, h1_11⟩
  refine ⟨_, rfl, ?_⟩
  have L1_11 := L1_7.trans h1_11
  refine ⟨fun _ => h1_11, ?_⟩
  have B3 := B3.le h1_11
  have B7 := B7.le h1_11
  refine G.ef rfl rfl rfl rfl rfl ?_
  refine Ef.call go115 rfl rfl (eight_ok (usg h.2.2.2.1) w1_11) ?_
  rintro _ w1_15 ⟨g15, rfl, hg15, B15, h1_15⟩
  refine ⟨_, rfl, ?_⟩
  have L1_15 := L1_11.trans h1_15
  refine ⟨fun _ => h1_15, ?_⟩
  have B3 := B3.le h1_15
  have B7 := B7.le h1_15
  have B11 := B11.le h1_15
  refine G.ef rfl rfl rfl rfl rfl ?_
  refine Ef.call go115 rfl rfl (eight_ok (h.2.2.2.2.1) w1_15) ?_
  rintro _ w1_18 ⟨g18, rfl, hg18, B18, h1_18⟩
  refine ⟨_, rfl, ?_⟩
  have L1_18 := L1_15.trans h1_18
  refine ⟨fun _ => h1_18, ?_⟩
  have B3 := B3.le h1_18
  have B7 := B7.le h1_18
  have B11 := B11.le h1_18
  have B15 := B15.le h1_18
  refine G.ef rfl rfl rfl rfl rfl ?_
  refine Ef.call go115 rfl rfl (eight_ok (h.2.2.2.2.2) w1_18) ?_
  rintro _ w1_21 ⟨g21, rfl, hg21, B21, h1_21⟩
  refine ⟨_, rfl, ?_⟩
  have L1_21 := L1_18.trans h1_21
  refine ⟨fun _ => h1_21, ?_⟩
  have B3 := B3.le h1_21
  have B7 := B7.le h1_21
  have B11 := B11.le h1_21
  have B15 := B15.le h1_21
  have B18 := B18.le h1_21
  refine G.ef rfl rfl rfl rfl rfl ?_
  refine Ef.buildSliceN [_, _, _, _, _, _] Try.underlying211 el107 rfl one6 rfl (by decide) (by decide) ?_
  intro g1_22 w1_22 hg1_22 b1_22 h1_22
  have L1_22 := L1_21.trans h1_22
  refine ⟨fun _ => h1_22, ?_⟩
  have B3 := B3.le h1_22
  have B7 := B7.le h1_22
  have B11 := B11.le h1_22
  have B15 := B15.le h1_22
  have B18 := B18.le h1_22
  have B21 := B21.le h1_22
  refine G.ef rfl rfl rfl rfl rfl ?_
  refine Ef.call go110 rfl rfl (concat_to (layB h) 48 w1_22 (b1_22.sl (s := 1) (n := 6) rfl) (.cons (B3.sb (be8_length _)) (.cons (B7.sb (be8_length _)) (.cons (B11.sb (be8_length _)) (.cons (B15.sb (be8_length _)) (.cons (B18.sb (be8_length _)) (.cons (B21.sb (be8_length _)) (.nil _))))))) (by simp [layB]) (layB_length h) (by decide) (by decide) (by decide)) ?_
  rintro _ w1_23 ⟨A1, c1, rfl, o1, h1_23⟩
  refine ⟨_, rfl, ?_⟩
  have L1_23 := L1_22.trans h1_23
  refine ⟨fun _ => h1_23, ?_⟩
  refine G.any rfl rfl (.assign rfl) rfl rfl rfl ?_
  refine G.nil ?_
  refine E.thenN ?_
  refine WC.ret ?_
  refine E.ret1 rfl rfl ?_
  exact ⟨A1, c1, rfl, o1.mono (Nat.le_trans h0_0.size (Nat.le_trans d1.size (Nat.le_trans h1_3.size (Nat.le_trans h1_7.size (Nat.le_trans h1_11.size (Nat.le_trans h1_15.size (Nat.le_trans h1_18.size (Nat.le_trans h1_21.size h1_22.size)))))))), h0_0.trans L1_23⟩

theorem read_okO {A : Option Addr} {n c : Nat} {xs : List Byte} (w : World) (hS : Sb w A n xs) (h48 : 48 ≤ n) (hc : n ≤ c) : Calls Try.prog 118 #[.slice A n c] w fun e w' => e = .returned (.agg (hopV (readH xs)).toArray) ∧ Le w w' := by
  refine enter Try.func118 rfl rfl ?_
  have L0 := Le.refl w
  refine WC.seq ?_
  refine WC.region ?_
  refine W.ef rfl rfl rfl ?_
  refine Ef.allocA z95 ?_
  intro g0_0 w0_0 hg0_0 b0_0 h0_0
  have L0_0 := L0.trans h0_0
  have b0 : Blk w0_0 g0_0 95 #[.int .i64 0, .int .i64 0, .int .i64 0, .int .i64 0, .int .u64 0, .int .u64 0] := b0_0
  refine W.nil ?_
  refine E.thenN ?_
  refine WC.seq ?_
  refine WC.drawS (fun w1 w' => Ch w1 w' (some g0_0)) [0, 3, 4, 7, 8, 11, 12, 1, 2, 15, 5, 6, 9, 10, 13, 14, 16, 17, 18, 19, 20, 21, 22] mixed (by kernel_rfl) ?_
  intro w1 d1
  refine ⟨Ch.refl _ _, ?_⟩
  have L1 := L0_0.trans d1
  refine GS.any rfl rfl (.move rfl) rfl rfl rfl ?_
  refine GS.any rfl rfl (.move rfl) rfl rfl rfl ?_
  refine GS.any rfl rfl (.cutL (8) Try.underlying107 sz5 rfl rfl (rfl) (by omega) (hc)) rfl rfl rfl ?_
  refine GS.any rfl rfl (.move rfl) rfl rfl rfl ?_
  refine GS.any rfl rfl (.cutL (16) Try.underlying107 sz5 rfl rfl (rfl) (by omega) (hc)) rfl rfl rfl ?_
  refine GS.any rfl rfl (.move rfl) rfl rfl rfl ?_
  refine GS.any rfl rfl (.cutL (24) Try.underlying107 sz5 rfl rfl (rfl) (by omega) (hc)) rfl rfl rfl ?_
  refine GS.ef rfl rfl rfl rfl rfl ?_
  refine Ef.call go116 rfl rfl (number_ok w1 (hS.le L1) (by omega) hc) ?_
  rintro _ w1_1 ⟨rfl, h1_1⟩
  refine ⟨_, rfl, ?_⟩
  have L1_1 := L1.trans h1_1
  have k1_1 := h1_1.ch (some g0_0)
  refine ⟨k1_1, ?_⟩
  refine GS.rd rfl rfl (fun w' hs => .convEq (isS Try.underlying29) Try.underlying3 rfl (wrap_sgn _ (numB_lt _))) rfl rfl rfl ?_
  refine GS.any rfl rfl (.field0 fa95_0 rfl) rfl rfl rfl ?_
  refine GS.ef rfl rfl rfl rfl rfl ?_
  refine Ef.call go116 rfl rfl (number_ok w1_1 ((hS.le L1_1).cutL c 8 (by omega) hc) (by omega) (by omega)) ?_
  rintro _ w1_5 ⟨rfl, h1_5⟩
  refine ⟨_, rfl, ?_⟩
  have L1_5 := L1_1.trans h1_5
  have k1_5 := k1_1.trans (h1_5.ch _)
  refine ⟨k1_5, ?_⟩
  refine GS.rd rfl rfl (fun w' hs => .convEq (isS Try.underlying29) Try.underlying3 rfl (wrap_sgn _ (numB_lt _))) rfl rfl rfl ?_
  refine GS.ef rfl rfl rfl rfl rfl ?_
  refine Ef.call go116 rfl rfl (number_ok w1_5 ((hS.le L1_5).cutL c 16 (by omega) hc) (by omega) (by omega)) ?_
  rintro _ w1_9 ⟨rfl, h1_9⟩
  refine ⟨_, rfl, ?_⟩
  have L1_9 := L1_5.trans h1_9
  have k1_9 := k1_5.trans (h1_9.ch _)
  refine ⟨k1_9, ?_⟩
  refine GS.rd rfl rfl (fun w' hs => .convEq (isS Try.underlying29) Try.underlying3 rfl (wrap_sgn _ (numB_lt _))) rfl rfl rfl ?_
  refine GS.ef rfl rfl rfl rfl rfl ?_
  refine Ef.call go116 rfl rfl (number_ok w1_9 ((hS.le L1_9).cutL c 24 (by omega) hc) (by omega) (by omega)) ?_
  rintro _ w1_13 ⟨rfl, h1_13⟩
  refine ⟨_, rfl, ?_⟩
  have L1_13 := L1_9.trans h1_13
  have k1_13 := k1_9.trans (h1_13.ch _)
  refine ⟨k1_13, ?_⟩
  refine GS.rd rfl rfl (fun w' hs => .convEq (isS Try.underlying29) Try.underlying3 rfl (wrap_sgn _ (numB_lt _))) rfl rfl rfl ?_
  refine GS.ef0 rfl rfl rfl rfl ?_
  refine Ef.store sz3 rfl rfl (b0.le (d1.trans (h1_1.trans (h1_5.trans (h1_9.trans h1_13))))) (by simp) (rfl) ?_
  intro w1_16 b1_16 h1_16
  have L1_16 : Le w w1_16 := L1_13.then_ h1_16 (fun q hq => by cases hq; exact hg0_0)
  have k1_16 := k1_13.trans h1_16
  refine ⟨k1_16, ?_⟩
  refine GS.any rfl rfl (.field0 fa95_1 rfl) rfl rfl rfl ?_
  refine GS.ef0 rfl rfl rfl rfl ?_
  refine Ef.store sz3 rfl rfl (b1_16) (by simp) (rfl) ?_
  intro w1_18 b1_18 h1_18
  have L1_18 : Le w w1_18 := L1_16.then_ h1_18 (fun q hq => by cases hq; exact hg0_0)
  have k1_18 := k1_16.trans h1_18
  refine ⟨k1_18, ?_⟩
  refine GS.any rfl rfl (.field0 fa95_2 rfl) rfl rfl rfl ?_
  refine GS.ef0 rfl rfl rfl rfl ?_
  refine Ef.store sz3 rfl rfl (b1_18) (by simp) (rfl) ?_
  intro w1_20 b1_20 h1_20
  have L1_20 : Le w w1_20 := L1_18.then_ h1_20 (fun q hq => by cases hq; exact hg0_0)
  have k1_20 := k1_18.trans h1_20
  refine ⟨k1_20, ?_⟩
  refine GS.any rfl rfl (.field0 fa95_3 rfl) rfl rfl rfl ?_
  refine GS.ef0 rfl rfl rfl rfl ?_
  refine Ef.store sz3 rfl rfl (b1_20) (by simp) (rfl) ?_
  intro w1_22 b1_22 h1_22
  have L1_22 : Le w w1_22 := L1_20.then_ h1_22 (fun q hq => by cases hq; exact hg0_0)
  have k1_22 := k1_20.trans h1_22
  refine ⟨k1_22, ?_⟩
  refine GS.nil ?_
  refine E.thenN ?_
  refine WC.seq ?_
  refine WC.draw [0, 1, 3, 4, 2, 6, 5, 7, 8, 9] mixed (by kernel_rfl) ?_
  intro w2 d2
  have L2 := L1_22.trans d2
  refine G.any rfl rfl (.move rfl) rfl rfl rfl ?_
  refine G.any rfl rfl (.cutL (32) Try.underlying107 sz5 rfl rfl (rfl) (by omega) (hc)) rfl rfl rfl ?_
  refine G.any rfl rfl (.move rfl) rfl rfl rfl ?_
  refine G.any rfl rfl (.cutL (40) Try.underlying107 sz5 rfl rfl (rfl) (by omega) (hc)) rfl rfl rfl ?_
  refine G.ef rfl rfl rfl rfl rfl ?_
  refine Ef.call go116 rfl rfl (number_ok w2 ((hS.le L2).cutL c 32 (by omega) hc) (by omega) (by omega)) ?_
  rintro _ w2_2 ⟨rfl, h2_2⟩
  refine ⟨_, rfl, ?_⟩
  have L2_2 := L2.trans h2_2
  refine ⟨fun _ => h2_2, ?_⟩
  refine G.any rfl rfl (.field0 fa95_4 rfl) rfl rfl rfl ?_
  refine G.ef rfl rfl rfl rfl rfl ?_
  refine Ef.call go116 rfl rfl (number_ok w2_2 ((hS.le L2_2).cutL c 40 (by omega) hc) (by omega) (by omega)) ?_
  rintro _ w2_5 ⟨rfl, h2_5⟩
  refine ⟨_, rfl, ?_⟩
  have L2_5 := L2_2.trans h2_5
  refine ⟨fun _ => h2_5, ?_⟩
  refine G.ef0 rfl rfl rfl rfl ?_
  refine Ef.store sz31 rfl rfl (b1_22.le (d2.trans (h2_2.trans h2_5))) (by simp) (rfl) ?_
  intro w2_7 b2_7 h2_7
  have L2_7 : Le w w2_7 := L2_5.then_ h2_7 (fun q hq => by cases hq; exact hg0_0)
  refine ⟨fun h => absurd h (ne_true_of_eq_false (by kernel_rfl)), ?_⟩
  refine G.any rfl rfl (.field0 fa95_5 rfl) rfl rfl rfl ?_
  refine G.ef0 rfl rfl rfl rfl ?_
  refine Ef.store sz30 rfl rfl (b2_7) (by simp) (rfl) ?_
  intro w2_9 b2_9 h2_9
  have L2_9 : Le w w2_9 := L2_7.then_ h2_9 (fun q hq => by cases hq; exact hg0_0)
  refine ⟨fun h => absurd h (ne_true_of_eq_false (by kernel_rfl)), ?_⟩
  have b9 : Blk w2_9 g0_0 95 (hopV (readH xs)).toArray := b2_9.cast (by rfl)
  refine G.nil ?_
  refine E.thenN ?_
  refine WC.seq ?_
  refine WC.region ?_
  refine W.rd (.loadAll ag95 (by rfl) rfl (b9)) rfl rfl rfl ?_
  refine W.ef0 rfl rfl ?_
  refine Ef.storeAll sz95 (by rfl) rfl rfl (b9) (by rfl) (hopV_one _) ?_
  intro w3_1 b3_1 h3_1
  have L3_1 : Le w w3_1 := L2_9.then_ h3_1 (fun q hq => by cases hq; exact hg0_0)
  refine W.nil ?_
  refine E.thenN ?_
  refine WC.ret ?_
  refine E.retC rfl rfl b3_1 ag95 (by rfl) ?_
  exact ⟨rfl, L3_1⟩

theorem stopped_ok (ee both : Nat) (w : World) : Calls Try.prog 117 #[.int .u64 ((ee : Nat) : Int), .int .u64 ((both : Nat) : Int)] w fun e w' => e = .returned (.agg (stopV (ee, sharedB both)).toArray) ∧ Le w w' := by
  refine enter Try.func117 rfl rfl ?_
  have L0 := Le.refl w
  refine WC.seq ?_
  refine WC.region ?_
  refine W.ef rfl rfl rfl ?_
  refine Ef.allocA z179 ?_
  intro g0_0 w0_0 hg0_0 b0_0 h0_0
  have L0_0 := L0.trans h0_0
  refine W.nil ?_
  refine E.thenN ?_
  refine WC.seq ?_
  refine WC.region ?_
  refine W.any (.move rfl) rfl rfl rfl ?_
  refine W.any (.move rfl) rfl rfl rfl ?_
  refine W.ef rfl rfl rfl ?_
  refine Ef.call go115 rfl rfl (eight_ok both w0_0) ?_
  rintro _ w1_2 ⟨g2, rfl, hg2, B2, h1_2⟩
  refine ⟨_, rfl, ?_⟩
  have L1_2 := L0_0.trans h1_2
  refine W.ef rfl rfl rfl ?_
  refine Ef.buildSlice1 Try.underlying211 el107 rfl rfl ?_
  intro g1_3 w1_3 hg1_3 b1_3 h1_3
  have L1_3 := L1_2.trans h1_3
  have B2 := B2.le h1_3
  refine W.ef rfl rfl rfl ?_
  refine Ef.call go107 rfl rfl (tag_ok _ nShared w1_3 (ps := [be8 both]) rfl (b1_3.sl (s := 1) (n := 1) rfl) (.cons (B2.sb (be8_length _)) (.nil _)) (by rw [tagLen1, be8_length]; decide)) ?_
  rintro _ w1_4 ⟨rfl, h1_4⟩
  refine ⟨_, rfl, ?_⟩
  have L1_4 := L1_3.trans h1_4
  refine W.any (.as (Any.buildAll [.int .u64 (ee : Nat), .agg ((sharedB both).map u8v).toArray] pl179 z179 rfl ⟨rfl, by simp [Value.cells, sharedB_length], trivial⟩ (by simp [flatV, Value.cells, sharedB_length])) (show _ = Value.agg (stopV (ee, sharedB both)).toArray by simp [flatV, Value.cells, stopV])) rfl rfl rfl ?_
  refine W.ef0 rfl rfl ?_
  refine Ef.storeAll sz179 (by simp [stopV, sharedB_length]) rfl rfl (((b0_0.le h1_2).le h1_3).le h1_4) (by simp [stopV, sharedB_length]) (stopV_one _) ?_
  intro w1_6 b1_6 h1_6
  have L1_6 : Le w w1_6 := L1_4.then_ h1_6 (fun q hq => by cases hq; exact hg0_0)
  refine W.nil ?_
  refine E.thenN ?_
  refine WC.ret ?_
  refine E.retC rfl rfl b1_6 ag179 (by simp [stopV, sharedB_length]) ?_
  exact ⟨rfl, L1_6⟩

theorem blind_ok (s : Stop) (hs : s.2.length = 32) (w : World) : Calls Try.prog 119 #[.agg (stopV s).toArray] w fun e w' => e = .returned (.int .u64 ((blindB s : Nat) : Int)) ∧ Le w w' := by
  refine enter Try.func119 rfl rfl ?_
  have L0 := Le.refl w
  refine WC.seq ?_
  refine WC.region ?_
  refine W.ef rfl rfl rfl ?_
  refine Ef.boxA rfl ?_
  intro g0_0 w0_0 hg0_0 b0_0 h0_0
  have L0_0 := L0.trans h0_0
  have LL := Le.refl w0_0
  refine W.any (.assign rfl) rfl rfl rfl ?_
  refine W.nil ?_
  refine E.thenN ?_
  refine WC.seq ?_
  refine WC.draw [0, 1, 3, 4, 2, 5, 6, 7, 8] mixed (by kernel_rfl) ?_
  intro w1 d1
  have L1 := LL.trans d1
  refine G.any rfl rfl (.field0 fa179_0 rfl) rfl rfl rfl ?_
  refine G.rd rfl rfl (.loadB na31 rfl (b0_0.le L1) (rfl)) rfl rfl rfl ?_
  refine G.any rfl rfl (.field0 fa179_1 rfl) rfl rfl rfl ?_
  refine G.any rfl rfl (.cutArrO Try.underlying89 sz5 (by decide) rfl) rfl rfl rfl ?_
  refine G.ef rfl rfl rfl rfl rfl ?_
  refine Ef.call go115 rfl rfl (eight_ok s.1 w1) ?_
  rintro _ w1_2 ⟨g2, rfl, hg2, B2, h1_2⟩
  refine ⟨_, rfl, ?_⟩
  have L1_2 := L1.trans h1_2
  refine ⟨fun _ => h1_2, ?_⟩
  refine G.ef rfl rfl rfl rfl rfl ?_
  refine Ef.buildSliceN [_, _] Try.underlying211 el107 rfl (one2 _ _ _ _ _ _) rfl (by decide) (by decide) ?_
  intro g1_5 w1_5 hg1_5 b1_5 h1_5
  have L1_5 := L1_2.trans h1_5
  refine ⟨fun _ => h1_5, ?_⟩
  refine G.ef rfl rfl rfl rfl rfl ?_
  refine Ef.call go107 rfl rfl (tag_ok _ nBlind w1_5 (ps := [be8 s.1, s.2]) rfl (b1_5.sl (s := 1) (n := 2) rfl) (.cons ((B2.le h1_5).sb (be8_length _)) (.cons ((b0_0.le L1_5).sbAt 1 32 s.2 hs (stopV_at s)) (.nil _))) (by rw [tagLen2, be8_length, hs]; decide)) ?_
  rintro _ w1_6 ⟨rfl, h1_6⟩
  refine ⟨_, rfl, ?_⟩
  have L1_6 := L1_5.trans h1_6
  refine ⟨fun _ => h1_6, ?_⟩
  refine G.ef rfl rfl rfl rfl rfl ?_
  refine Ef.call go139 rfl rfl (from_ok _ (tag_length _ _) w1_6) ?_
  rintro _ w1_7 ⟨rfl, h1_7⟩
  refine ⟨_, rfl, ?_⟩
  have L1_7 := L1_6.trans h1_7
  refine ⟨fun _ => h1_7, ?_⟩
  refine G.any rfl rfl (.assign rfl) rfl rfl rfl ?_
  refine G.nil ?_
  refine E.thenN ?_
  refine WC.ret ?_
  refine E.ret1 rfl rfl ?_
  exact ⟨rfl, h0_0.trans L1_7⟩

theorem rho_ok (s : Stop) (hs : s.2.length = 32) (n : Nat) (hn : n ≤ 65536) (w : World) : Calls Try.prog 112 #[.agg (stopV s).toArray, .int .i64 (n : Int)] w fun e w' => ∃ A c, e = .returned (.slice A n c) ∧ Own w' w.heap.size 5 1 A n c ((rho s n).map u8v) ∧ Le w w' := by
  refine enter Try.func112 rfl rfl ?_
  have L0 := Le.refl w
  refine WC.seq ?_
  refine WC.region ?_
  refine W.ef rfl rfl rfl ?_
  refine Ef.boxA rfl ?_
  intro g0_0 w0_0 hg0_0 b0_0 h0_0
  have L0_0 := L0.trans h0_0
  have LL := Le.refl w0_0
  refine W.any (.assign rfl) rfl rfl rfl ?_
  refine W.nil ?_
  refine E.thenN ?_
  refine WC.seq ?_
  refine WC.region ?_
  refine W.any (.field0 fa179_1 rfl) rfl rfl rfl ?_
  refine W.any (.cutArrO Try.underlying89 sz5 (by decide) rfl) rfl rfl rfl ?_
  refine W.ef rfl rfl rfl ?_
  refine Ef.buildSlice1 Try.underlying211 el107 rfl rfl ?_
  intro g1_2 w1_2 hg1_2 b1_2 h1_2
  have L1_2 := LL.trans h1_2
  refine W.ef rfl rfl rfl ?_
  refine Ef.call go107 rfl rfl (tag_ok _ nRho w1_2 (ps := [s.2]) rfl (b1_2.sl (s := 1) (n := 1) rfl) (.cons ((b0_0.le L1_2).sbAt 1 32 s.2 hs (stopV_at s)) (.nil _)) (by rw [tagLen1, hs]; decide)) ?_
  rintro _ w1_3 ⟨rfl, h1_3⟩
  refine ⟨_, rfl, ?_⟩
  have L1_3 := L1_2.trans h1_3
  refine W.any (.move rfl) rfl rfl rfl ?_
  refine W.ef rfl rfl rfl ?_
  refine Ef.call go106 rfl rfl (stream_ok _ (tag_length _ _) n hn w1_3) ?_
  rintro _ w1_5 ⟨A1, c1, rfl, o1, h1_5⟩
  refine ⟨_, rfl, ?_⟩
  have L1_5 := L1_3.trans h1_5
  refine W.any (.assign rfl) rfl rfl rfl ?_
  refine W.nil ?_
  refine E.thenN ?_
  refine WC.ret ?_
  refine E.ret1 rfl rfl ?_
  exact ⟨A1, c1, rfl, o1.mono (h0_0.trans L1_3).size, h0_0.trans L1_5⟩

theorem mac_ok (s : Stop) (hs : s.2.length = 32) {A : Option Addr} {n c : Nat} {xs : List Byte} (w : World) (hS : Sb w A n xs) (hn : n ≤ 1000000) : Calls Try.prog 114 #[.agg (stopV s).toArray, .slice A n c] w fun e w' => e = .returned (.agg ((macB s xs).map u8v).toArray) ∧ Le w w' := by
  refine enter Try.func114 rfl rfl ?_
  have L0 := Le.refl w
  refine WC.seq ?_
  refine WC.region ?_
  refine W.ef rfl rfl rfl ?_
  refine Ef.boxA rfl ?_
  intro g0_0 w0_0 hg0_0 b0_0 h0_0
  have L0_0 := L0.trans h0_0
  have LL := Le.refl w0_0
  refine W.ef rfl rfl rfl ?_
  refine Ef.allocA z89 ?_
  intro g0_1 w0_1 hg0_1 b0_1 h0_1
  have L0_1 := LL.trans h0_1
  refine W.nil ?_
  refine E.thenN ?_
  refine WC.seq ?_
  refine WC.region ?_
  refine W.any (.field0 fa179_1 rfl) rfl rfl rfl ?_
  refine W.any (.cutArrO Try.underlying89 sz5 (by decide) rfl) rfl rfl rfl ?_
  refine W.any (.move rfl) rfl rfl rfl ?_
  refine W.ef rfl rfl rfl ?_
  refine Ef.buildSliceN [_, _] Try.underlying211 el107 rfl (one2 _ _ _ _ _ _) rfl (by decide) (by decide) ?_
  intro g1_3 w1_3 hg1_3 b1_3 h1_3
  have L1_3 := L0_1.trans h1_3
  refine W.ef rfl rfl rfl ?_
  refine Ef.call go107 rfl rfl (tag_ok _ nMac w1_3 (ps := [s.2, xs]) rfl (b1_3.sl (s := 1) (n := 2) rfl) (.cons ((b0_0.le L1_3).sbAt 1 32 s.2 hs (stopV_at s)) (.cons (hS.le (h0_0.trans L1_3)) (.nil _))) (by rw [tagLen2, hs, hS.len]; show 24 + 3 + 32 + n ≤ _; omega)) ?_
  rintro _ w1_4 ⟨rfl, h1_4⟩
  refine ⟨_, rfl, ?_⟩
  have L1_4 := L1_3.trans h1_4
  refine W.ef0 rfl rfl ?_
  refine Ef.storeAll sz89 (by simp [tag_length]) rfl rfl ((b0_1.le h1_3).le h1_4) (by simp [tag_length]) (all_u8v _) ?_
  intro w1_5 b1_5 h1_5
  have L1_5 : Le w0_0 w1_5 := L1_4.then_ h1_5 (fun q hq => by cases hq; exact hg0_1)
  refine W.nil ?_
  refine E.thenN ?_
  refine WC.ret ?_
  refine E.retC rfl rfl b1_5 ag89 (by simp [tag_length]) ?_
  exact ⟨rfl, h0_0.trans L1_5⟩

theorem pright_T (a : Nat) (ha : a < 18446744073709551616) (h : right a = true) (w : World) : Calls Try.prog 90 #[.int .u64 ((a : Nat) : Int)] w fun e w' => e = .returned (.bool true) ∧ Le w w' := by
  have := pright_ok a ha w
  rwa [h] at this

theorem pright_F (a : Nat) (ha : a < 18446744073709551616) (h : right a = false) (w : World) : Calls Try.prog 90 #[.int .u64 ((a : Nat) : Int)] w fun e w' => e = .returned (.bool false) ∧ Le w w' := by
  have := pright_ok a ha w
  rwa [h] at this

set_option maxHeartbeats 1000000 in
theorem way_ok (seed : List Byte) (hse : seed.length = 32) {A : Option Addr} {n c : Nat} {ks : List Nat} (w : World) (hK : Sl w 1 A n (ks.map pv)) (hks : ∀ k ∈ ks, k < 18446744073709551616) (hn : n ≤ 1000000) : Calls Try.prog 104 #[.slice A n c, .agg (seed.map u8v).toArray] w fun e w' => Le w w' ∧ ((keysOk ks = true ∧ ∃ A' c', e = .returned (.tuple #[.slice A' n c', .bool true]) ∧ Own w' w.heap.size 179 33 A' n c' (stopRows (wayB (startX seed) ks)).flatten) ∨ (keysOk ks = false ∧ e = .returned (.tuple #[.slice none 0 0, .bool false]))) := by
  have hkl0 := hK.1
  rw [List.length_map, Nat.mul_one] at hkl0
  refine enter Try.func104 rfl rfl ?_
  have L0 := Le.refl w
  refine WC.seq ?_
  refine WC.region ?_
  refine W.ef rfl rfl rfl ?_
  refine Ef.boxA rfl ?_
  intro g0_0 w0_0 hg0_0 b0_0 h0_0
  have L0_0 := L0.trans h0_0
  refine W.any (.assign rfl) rfl rfl rfl ?_
  refine W.any (.assign rfl) rfl rfl rfl ?_
  refine W.nil ?_
  refine E.thenN ?_
  refine WC.seq ?_
  refine WC.seq ?_
  refine WC.region ?_
  refine W.any (.move rfl) rfl rfl rfl ?_
  refine W.rd (.len Try.underlying60 rfl) rfl rfl rfl ?_
  by_cases hl1 : n < 1
  · refine W.any (.dec (.lss rfl rfl) (decide_eq_true (by omega))) rfl rfl rfl ?_
    refine W.any (.move rfl) rfl rfl rfl ?_
    refine W.skip rfl rfl rfl (rfl) rfl rfl ?_
    refine W.skip rfl rfl rfl (rfl) rfl rfl ?_
    refine W.skip rfl rfl rfl (rfl) rfl rfl ?_
    refine W.any (.pickT rfl rfl rfl) rfl rfl rfl ?_
    refine W.nil ?_
    refine E.thenN ?_
    refine WC.condT rfl ?_
    refine WC.seq ?_
    refine WC.region ?_
    refine W.any (.assign rfl) rfl rfl rfl ?_
    refine W.any (.assign rfl) rfl rfl rfl ?_
    refine W.nil ?_
    refine E.thenN ?_
    refine WC.ret ?_
    refine E.thenR ?_
    refine E.ret2 rfl rfl rfl ?_
    exact ⟨L0_0, .inr ⟨by simp [keysOk]; omega, rfl⟩⟩
  · refine W.any (.dec (.lss rfl rfl) (decide_eq_false (by omega))) rfl rfl rfl ?_
    refine W.any (.move rfl) rfl rfl rfl ?_
    refine W.rdg (Any.rd (.move rfl) _) rfl rfl rfl (rfl) rfl rfl ?_
    refine W.rdg (.len Try.underlying60 rfl) rfl rfl rfl (rfl) rfl rfl ?_
    by_cases hl8 : 8 < n
    · refine W.rdg (Any.rd (.dec (.gtr rfl rfl) (decide_eq_true (by omega))) _) rfl rfl rfl (rfl) rfl rfl ?_
      refine W.any (.pickF rfl rfl rfl) rfl rfl rfl ?_
      refine W.nil ?_
      refine E.thenN ?_
      refine WC.condT rfl ?_
      refine WC.seq ?_
      refine WC.region ?_
      refine W.any (.assign rfl) rfl rfl rfl ?_
      refine W.any (.assign rfl) rfl rfl rfl ?_
      refine W.nil ?_
      refine E.thenN ?_
      refine WC.ret ?_
      refine E.thenR ?_
      refine E.ret2 rfl rfl rfl ?_
      exact ⟨L0_0, .inr ⟨by simp [keysOk]; omega, rfl⟩⟩
    · refine W.rdg (Any.rd (.dec (.gtr rfl rfl) (decide_eq_false (by omega))) _) rfl rfl rfl (rfl) rfl rfl ?_
      refine W.any (.pickF rfl rfl rfl) rfl rfl rfl ?_
      refine W.nil ?_
      refine E.thenN ?_
      refine WC.condF rfl ?_
      refine WC.skip ?_
      refine E.thenN ?_
      refine WC.seq ?_
      refine WC.region ?_
      refine W.any (.cutArr Try.underlying89 sz5 rfl) rfl rfl rfl ?_
      refine W.ef rfl rfl rfl ?_
      refine Ef.buildSlice1 Try.underlying211 el107 rfl rfl ?_
      intro g3_1 w3_1 hg3_1 b3_1 h3_1
      have L3_1 := L0_0.trans h3_1
      refine W.ef rfl rfl rfl ?_
      refine Ef.call go107 rfl rfl (tag_ok _ nOnion w3_1 (ps := [seed]) rfl (b3_1.sl (s := 1) (n := 1) rfl) (.cons ((b0_0.le h3_1).sb hse) (.nil _)) (by rw [tagLen1, hse]; decide)) ?_
      rintro _ w3_2 ⟨rfl, h3_2⟩
      refine ⟨_, rfl, ?_⟩
      have L3_2 := L3_1.trans h3_2
      refine W.ef rfl rfl rfl ?_
      refine Ef.call go139 rfl rfl (from_ok _ (tag_length _ _) w3_2) ?_
      rintro _ w3_3 ⟨rfl, h3_3⟩
      refine ⟨_, rfl, ?_⟩
      have L3_3 := L3_2.trans h3_3
      refine W.any (.assign rfl) rfl rfl rfl ?_
      refine W.nil ?_
      refine E.thenN ?_
      refine WC.seq ?_
      refine WC.seq ?_
      refine WC.region ?_
      refine W.any (.move rfl) rfl rfl rfl ?_
      refine W.rd (.len Try.underlying60 rfl) rfl rfl rfl ?_
      refine W.any (.move rfl) rfl rfl rfl ?_
      refine W.nil ?_
      refine E.thenN ?_
      refine WC.block ?_
      refine WC.loop (ι := Nat × Option Addr × Nat) (fun ⟨k, A1, cp⟩ => [(4, .slice A1 k cp), (6, .int .u64 ((xAt (startX seed) (ks.take k) : Nat) : Int)), (22, .slice A n c), (23, .int .i64 (n : Int)), (24, .int .i64 (k : Int))]) (fun ⟨k, A1, cp⟩ wl => k ≤ n ∧ Le w wl ∧ (ks.take k).all keyOk = true ∧ Own wl w.heap.size 179 33 A1 k cp (stopRows (wayB (startX seed) (ks.take k))).flatten) (fun ⟨k, A1, cp⟩ => n - k) (0, none, 0) ?_ ?_ ?_
      · exact .cons rfl (.cons rfl (.cons rfl (.cons rfl (.cons rfl (.nil _)))))
      · exact ⟨Nat.zero_le _, L3_3, rfl, Own.nil _ _ _ _ _⟩
      · rintro ⟨k, A1, cp⟩ wl ⟨hk, Ll, hall, ol⟩
        refine WC.seq ?_
        refine WC.region ?_
        refine W.any (.lss rfl rfl) rfl rfl rfl ?_
        refine W.nil ?_
        refine E.thenN ?_
        refine WC.seq ?_
        refine WC.cond rfl (fun c1 => ?_) (fun c1 => ?_)
        · have hkey := getn ks (show k < ks.length by omega)
          have hkl : ks.getD k 0 < 18446744073709551616 := hks _ (List.mem_of_getElem? hkey)
          refine WC.skip ?_
          refine E.thenN ?_
          refine WC.seq ?_
          refine WC.block ?_
          refine WC.seq ?_
          refine WC.region ?_
          refine W.any (.idxS1 (k) Try.underlying60 sz31 rfl rfl (hK.isSome (j := k) (by omega) (by decide)) (rfl) (by omega)) rfl rfl rfl ?_
          refine W.rd (.loadS na31 rfl (hK.le Ll) (getp ks (by omega))) rfl rfl rfl ?_
          refine W.any (.assign rfl) rfl rfl rfl ?_
          refine W.nil ?_
          refine E.thenN ?_
          refine WC.seq ?_
          refine WC.seq ?_
          refine WC.region ?_
          refine W.any (.move rfl) rfl rfl rfl ?_
          by_cases hk1 : ks.getD k 0 = 1
          · refine W.any (.dec (.eql rfl rfl) (decide_eq_true (by omega))) rfl rfl rfl ?_
            refine W.any (.move rfl) rfl rfl rfl ?_
            refine W.skip rfl rfl rfl (rfl) rfl rfl ?_
            refine W.skip rfl rfl rfl (rfl) rfl rfl ?_
            refine W.skip rfl rfl rfl (rfl) rfl rfl ?_
            refine W.any (.pickT rfl rfl rfl) rfl rfl rfl ?_
            refine W.nil ?_
            refine E.thenN ?_
            refine WC.condT rfl ?_
            refine WC.seq ?_
            refine WC.region ?_
            refine W.any (.assign rfl) rfl rfl rfl ?_
            refine W.any (.assign rfl) rfl rfl rfl ?_
            refine W.nil ?_
            refine E.thenN ?_
            refine WC.ret ?_
            refine E.thenR ?_
            refine E.blkR ?_
            refine E.thenR ?_
            refine E.thenR ?_
            refine E.blkR ?_
            refine E.thenR ?_
            refine E.ret2 rfl rfl rfl ?_
            exact ⟨Ll, .inr ⟨key_bad ks k _ hkey (by rw [hk1]; rfl), rfl⟩⟩
          · refine W.any (.dec (.eql rfl rfl) (decide_eq_false (by omega))) rfl rfl rfl ?_
            refine W.any (.move rfl) rfl rfl rfl ?_
            refine W.rdg (Any.rd (.move rfl) _) rfl rfl rfl (rfl) rfl rfl ?_
            by_cases hrt : right (ks.getD k 0) = true
            · refine W.efg rfl rfl rfl (rfl) rfl rfl ?_
              refine Ef.call go90 rfl rfl (pright_T _ hkl hrt wl) ?_
              rintro _ w7_4 ⟨rfl, h7_4⟩
              refine ⟨_, rfl, ?_⟩
              have L7_4 := Ll.trans h7_4
              refine W.rdg (Any.rd (.not rfl) _) rfl rfl rfl (rfl) rfl rfl ?_
              refine W.any (.pickF rfl rfl rfl) rfl rfl rfl ?_
              refine W.nil ?_
              refine E.thenN ?_
              refine WC.condF rfl ?_
              refine WC.skip ?_
              refine E.thenN ?_
              refine WC.seq ?_
              refine WC.region ?_
              refine W.any (.move rfl) rfl rfl rfl ?_
              refine W.ef rfl rfl rfl ?_
              refine Ef.call go49 rfl rfl (base_ok _ w7_4) ?_
              rintro _ w9_1 ⟨rfl, h9_1⟩
              refine ⟨_, rfl, ?_⟩
              have L9_1 := L7_4.trans h9_1
              refine W.any (.move rfl) rfl rfl rfl ?_
              refine W.any (.move rfl) rfl rfl rfl ?_
              refine W.ef rfl rfl rfl ?_
              refine Ef.call go93 rfl rfl (scale_ok _ _ hkl w9_1) ?_
              rintro _ w9_4 ⟨rfl, h9_4⟩
              refine ⟨_, rfl, ?_⟩
              have L9_4 := L9_1.trans h9_4
              refine W.ef rfl rfl rfl ?_
              refine Ef.call go117 rfl rfl (stopped_ok _ _ w9_4) ?_
              rintro _ w9_5 ⟨rfl, h9_5⟩
              refine ⟨_, rfl, ?_⟩
              have L9_5 := L9_4.trans h9_5
              refine W.ef rfl rfl rfl ?_
              refine Ef.allocA z179 ?_
              intro g9_6 w9_6 hg9_6 b9_6 h9_6
              have L9_6 := L9_5.trans h9_6
              refine W.ef0 rfl rfl ?_
              refine Ef.storeAll sz179 (by simp [stopV, sharedB_length]) rfl rfl (b9_6) (by simp [stopV, sharedB_length]) (stopV_one _) ?_
              intro w9_7 b9_7 h9_7
              have L9_7 : Le w w9_7 := L9_6.then_ h9_7 (fun q hq => by cases hq; exact Nat.le_trans L9_5.size hg9_6)
              have ol2 := (ol.le (h7_4.trans (h9_1.trans (h9_4.trans (h9_5.trans h9_6))))).ch h9_7 (fun q hq => by cases hq; exact fun he => by have := (ol.row he).2; have := h7_4.size; have := h9_1.size; have := h9_4.size; have := h9_5.size; omega)
              have hrow : ∀ q, rowOf A1 cp = some q → q ≠ g9_6 := fun q hq he => by subst he; have := (ol.row hq).2; have := h7_4.size; have := h9_1.size; have := h9_4.size; have := h9_5.size; omega
              refine W.nil ?_
              refine E.thenN ?_
              refine WC.drawS (fun w10 w' => Ch w10 w' (rowOf A1 cp)) [0, 1, 4, 5, 2, 3, 6, 7, 8, 9] mixed (by kernel_rfl) ?_
              intro w10 d10
              refine ⟨Ch.refl _ _, ?_⟩
              have L10 := L9_7.trans d10
              have ol3 := ol2.le d10
              have b9 := b9_7.le d10
              refine GS.any rfl rfl (.move rfl) rfl rfl rfl ?_
              refine GS.rd rfl rfl (fun w' hs => .loadAll ag179 (by simp [stopV, sharedB_length]) rfl (b9.ch hs (fun he => hrow _ he rfl))) rfl rfl rfl ?_
              refine GS.any rfl rfl (.move rfl) rfl rfl rfl ?_
              refine GS.rd rfl rfl (fun w' hs => .loadAll ag179 (by simp [stopV, sharedB_length]) rfl (b9.ch hs (fun he => hrow _ he rfl))) rfl rfl rfl ?_
              refine GS.ef rfl rfl rfl rfl rfl ?_
              refine Ef.buildSliceA Try.underlying169 el179 (by decide) rfl (by simp [stopV, sharedB_length]) ?_
              intro g10_2 w10_2 hg10_2 b10_2 h10_2
              have L10_2 := L10.trans h10_2
              refine ⟨h10_2.ch _, ?_⟩
              refine GS.ef rfl rfl rfl rfl rfl ?_
              refine Ef.append Try.underlying169 el179 rfl (ol3.le h10_2) rfl (b10_2.srcA Try.underlying169 (by simp [stopV, sharedB_length]) (by decide) (stopV_one _)) (by omega) (by unfold maxLen; omega) (L10_2.size) ?_
              intro A10_3 c10_3 w10_3 o10_3 h10_3 at10_3
              have L10_3 : Le w w10_3 := L10_2.then_ h10_3 (fun q hq => (ol.row hq).1)
              refine ⟨(h10_2.ch _).trans h10_3, ?_⟩
              have oo := o10_3
              refine GS.ef rfl rfl rfl rfl rfl ?_
              refine Ef.call go119 rfl rfl (blind_ok _ (sharedB_length _) w10_3) ?_
              rintro _ w10_6 ⟨rfl, h10_6⟩
              refine ⟨_, rfl, ?_⟩
              have L10_6 := L10_3.trans h10_6
              refine ⟨((h10_2.ch _).trans h10_3).trans (h10_6.ch _), ?_⟩
              refine GS.ef rfl rfl rfl rfl rfl ?_
              refine Ef.call go143 rfl rfl (fmul_ok _ _ w10_6) ?_
              rintro _ w10_7 ⟨rfl, h10_7⟩
              refine ⟨_, rfl, ?_⟩
              have L10_7 := L10_6.trans h10_7
              refine ⟨(((h10_2.ch _).trans h10_3).trans (h10_6.ch _)).trans (h10_7.ch _), ?_⟩
              refine GS.any rfl rfl (.assign rfl) rfl rfl rfl ?_
              refine GS.any rfl rfl (.assign rfl) rfl rfl rfl ?_
              refine GS.nil ?_
              refine E.blkN ?_
              refine E.thenN ?_
              refine WC.region ?_
              refine W.any (.add rfl rfl (by omega)) rfl rfl rfl ?_
              refine W.any (.move rfl) rfl rfl rfl ?_
              refine W.nil ?_
              refine E.again (k + 1, A10_3, c10_3) (.cons rfl (.cons' rfl (int_eq (congrArg Nat.cast (by rw [xAt_snoc _ ks k _ hkey]; rfl))) (.cons rfl (.cons rfl (.cons rfl (.nil _)))))) ?_ ?_
              · exact ⟨by omega, L10_7, by rw [keys_all ks k _ hkey hall]; exact keyOk_yes hk1 hrt, (oo.le (h10_6.trans h10_7)).cast rfl (by rw [wayB_snoc _ ks k _ hkey]; simp [stopRows, stopB])⟩
              · first | omega | (simp only []; omega)
            · refine W.efg rfl rfl rfl (rfl) rfl rfl ?_
              refine Ef.call go90 rfl rfl (pright_F _ hkl (by simpa using hrt) wl) ?_
              rintro _ w7_4 ⟨rfl, h7_4⟩
              refine ⟨_, rfl, ?_⟩
              have L7_4 := Ll.trans h7_4
              refine W.rdg (Any.rd (.not rfl) _) rfl rfl rfl (rfl) rfl rfl ?_
              refine W.any (.pickF rfl rfl rfl) rfl rfl rfl ?_
              refine W.nil ?_
              refine E.thenN ?_
              refine WC.condT rfl ?_
              refine WC.seq ?_
              refine WC.region ?_
              refine W.any (.assign rfl) rfl rfl rfl ?_
              refine W.any (.assign rfl) rfl rfl rfl ?_
              refine W.nil ?_
              refine E.thenN ?_
              refine WC.ret ?_
              refine E.thenR ?_
              refine E.blkR ?_
              refine E.thenR ?_
              refine E.thenR ?_
              refine E.blkR ?_
              refine E.thenR ?_
              refine E.ret2 rfl rfl rfl ?_
              exact ⟨L7_4, .inr ⟨key_bad ks k _ hkey (keyOk_no (by simpa using hrt)), rfl⟩⟩
        · have hkn : n = k := by omega
          subst hkn
          rw [List.take_of_length_le (by omega)] at hall ol
          refine WC.exit ?_
          refine E.thenX ?_
          refine E.thenX ?_
          refine E.blkH ?_
          refine E.thenN ?_
          refine WC.seq ?_
          refine WC.region ?_
          refine W.any (.move rfl) rfl rfl rfl ?_
          refine W.any (.assign rfl) rfl rfl rfl ?_
          refine W.any (.assign rfl) rfl rfl rfl ?_
          refine W.nil ?_
          refine E.thenN ?_
          refine WC.ret ?_
          refine E.ret2 rfl rfl rfl ?_
          exact ⟨Ll, .inl ⟨by rw [keysOk, hall]; simp; omega, A1, cp, rfl, ol⟩⟩
end Go.Proofs.Ytfgakofjkldcjaa

namespace Go.Proofs.Ytfgakofjkldcjaa
open Go Go.Sx Go.Hsp Go.Num Go.Osp
set_option maxRecDepth 20000
theorem stopRows_at (l : List Stop) (k : Nat) (s : Stop) (h : l[k]? = some s) : (stopRows l)[k]? = some (stopV s) := by simp [stopRows, h]
theorem way_T (seed : List Byte) (hse : seed.length = 32) {A : Option Addr} {n c : Nat} {ks : List Nat} (w : World) (hK : Sl w 1 A n (ks.map pv)) (hks : ∀ k ∈ ks, k < 18446744073709551616) (hn : n ≤ 1000000) (hk : keysOk ks = true) : Calls Try.prog 104 #[.slice A n c, .agg (seed.map u8v).toArray] w fun e w' => ∃ A' c', e = .returned (.tuple #[.slice A' n c', .bool true]) ∧ Own w' w.heap.size 179 33 A' n c' (stopRows (wayB (startX seed) ks)).flatten ∧ Le w w' :=
  (way_ok seed hse w hK hks hn).mono fun e w' ⟨hl, h⟩ => by
    rcases h with ⟨_, A', c', rfl, ho⟩ | ⟨h, _⟩
    · exact ⟨A', c', rfl, ho, hl⟩
    · rw [hk] at h; cases h
theorem way_F (seed : List Byte) (hse : seed.length = 32) {A : Option Addr} {n c : Nat} {ks : List Nat} (w : World) (hK : Sl w 1 A n (ks.map pv)) (hks : ∀ k ∈ ks, k < 18446744073709551616) (hn : n ≤ 1000000) (hk : keysOk ks = false) : Calls Try.prog 104 #[.slice A n c, .agg (seed.map u8v).toArray] w fun e w' => e = .returned (.tuple #[.slice none 0 0, .bool false]) ∧ Le w w' :=
  (way_ok seed hse w hK hks hn).mono fun e w' ⟨hl, h⟩ => by
    rcases h with ⟨h, _⟩ | ⟨_, rfl⟩
    · rw [hk] at h; cases h
    · exact ⟨rfl, hl⟩





set_option maxHeartbeats 1000000 in
theorem filler_ok {A : Option Addr} {n c : Nat} {l : List Stop} (w : World) (hR : Rws w 33 A n (stopRows l)) (hsum : ∀ s ∈ l, s.2.length = 32) (h1 : 1 ≤ n) (h8 : n ≤ 8) (hc : n ≤ c) : Calls Try.prog 113 #[.slice A n c] w fun e w' => ∃ A' c', e = .returned (.slice A' (80 * (n - 1)) c') ∧ Own w' w.heap.size 5 1 A' (80 * (n - 1)) c' ((filler l).map u8v) ∧ Le w w' := by
  have hll : l.length = n := by have := hR.1; simpa [stopRows] using this
  refine enter Try.func113 rfl rfl ?_
  have L0 := Le.refl w
  refine WC.seq ?_
  refine WC.region ?_
  refine W.any (.assign rfl) rfl rfl rfl ?_
  refine W.nil ?_
  refine E.thenN ?_
  refine WC.seq ?_
  refine WC.seq ?_
  refine WC.region ?_
  refine W.any (.move rfl) rfl rfl rfl ?_
  refine W.any (.move rfl) rfl rfl rfl ?_
  refine W.rd (.len Try.underlying169 rfl) rfl rfl rfl ?_
  refine W.any (.sub rfl rfl (by omega)) rfl rfl rfl ?_
  refine W.any (.cutH (n - 1) Try.underlying169 sz179 rfl rfl (by omega) (by omega)) rfl rfl rfl ?_
  refine W.rd (.len Try.underlying169 rfl) rfl rfl rfl ?_
  refine W.any (.move rfl) rfl rfl rfl ?_
  refine W.nil ?_
  refine E.thenN ?_
  refine WC.block ?_
  refine WC.loop (ι := Nat × Option Addr × Nat) (fun ⟨k, A1, cp⟩ => [(2, .slice A1 (80 * k) cp), (9, .slice A (n - 1) c), (10, .int .i64 ((n - 1 : Nat) : Int)), (11, .int .i64 (k : Int))]) (fun ⟨k, A1, cp⟩ wl => k ≤ n - 1 ∧ Le w wl ∧ Own wl w.heap.size 5 1 A1 (80 * k) cp ((fillTo [] (l.take k)).map u8v)) (fun ⟨k, A1, cp⟩ => n - 1 - k) (0, none, 0) ?_ ?_ ?_
  · exact .cons rfl (.cons rfl (.cons rfl (.cons rfl (.nil _))))
  · exact ⟨Nat.zero_le _, L0, Own.nil _ _ _ _ _⟩
  · rintro ⟨k, A1, cp⟩ wl ⟨hkn, Ll, ol⟩
    have hfl : (fillTo [] (l.take k)).length = 80 * k := by rw [fillTo_length _ _ (by simp [List.length_take]; omega)]; simp [List.length_take]; omega
    refine WC.seq ?_
    refine WC.region ?_
    refine W.any (.lss rfl rfl) rfl rfl rfl ?_
    refine W.nil ?_
    refine E.thenN ?_
    refine WC.seq ?_
    refine WC.cond rfl (fun c0 => ?_) (fun c0 => ?_)
    · obtain ⟨s, hs⟩ : ∃ s, l[k]? = some s := ⟨_, List.getElem?_eq_getElem (by omega)⟩
      have hs32 := hsum s (List.mem_of_getElem? hs)
      refine WC.skip ?_
      refine E.thenN ?_
      refine WC.seq ?_
      refine WC.block ?_
      refine WC.seq ?_
      refine WC.region ?_
      refine W.any (.idxS (k) Try.underlying169 sz179 rfl rfl (hR.isSome (by omega) (by decide)) (rfl) (by omega)) rfl rfl rfl ?_
      refine W.rd (.loadR ag179 rfl (hR.le Ll) (stopRows_at l k s hs) (by decide)) rfl rfl rfl ?_
      refine W.ef rfl rfl rfl ?_
      refine Ef.allocA z179 ?_
      intro g3_2 w3_2 hg3_2 b3_2 h3_2
      have L3_2 := Ll.trans h3_2
      refine W.ef0 rfl rfl ?_
      refine Ef.storeAll sz179 (by simp [stopV, hs32]) rfl rfl (b3_2) (by simp [stopV, hs32]) (stopV_one _) ?_
      intro w3_3 b3_3 h3_3
      have L3_3 : Le w w3_3 := L3_2.then_ h3_3 (fun q hq => by cases hq; exact Nat.le_trans Ll.size hg3_2)
      have ol2 := (ol.le h3_2).ch h3_3 (fun q hq => by cases hq; exact fun he => by have := (ol.row he).2; omega)
      refine W.nil ?_
      refine E.thenN ?_
      refine WC.seq ?_
      refine WC.region ?_
      refine W.any (.move rfl) rfl rfl rfl ?_
      refine W.ef rfl rfl rfl ?_
      refine Ef.appendZ 80 Try.underlying107 Try.underlying3 el5 rfl rfl ol2 rfl rfl (by decide) (by omega) (by unfold maxLen; omega) L3_3.size ?_
      intro A4 c4 w4_1 o4 h4_1 at4
      have L4_1 : Le w w4_1 := L3_3.then_ h4_1 (fun q hq => (ol.row hq).1)
      have b4 := b3_3.ch h4_1 (fun he => by have := (ol.row he).2; omega)
      have o4 : Own w4_1 w.heap.size 5 1 A4 (80 * k + 80) c4 ((fillTo [] (l.take k) ++ List.replicate 80 0#8).map u8v) := o4.cast rfl (by simp [u8v])
      refine W.any (.assign rfl) rfl rfl rfl ?_
      refine W.nil ?_
      refine E.thenN ?_
      refine WC.region ?_
      refine W.any (.move rfl) rfl rfl rfl ?_
      refine W.rd (.loadAll ag179 (by simp [stopV, hs32]) rfl (b4)) rfl rfl rfl ?_
      refine W.ef rfl rfl rfl ?_
      refine Ef.call go112 rfl rfl (rho_ok s hs32 720 (by decide) w4_1) ?_
      rintro _ w5_2 ⟨A5, c5, rfl, o5, h5_2⟩
      refine ⟨_, rfl, ?_⟩
      have L5_2 := L4_1.trans h5_2
      have o4 := o4.le h5_2
      refine W.any (.move rfl) rfl rfl rfl ?_
      refine W.rd (.len Try.underlying107 rfl) rfl rfl rfl ?_
      refine W.any (.sub rfl rfl (by omega)) rfl rfl rfl ?_
      refine W.any (.cutL (720 - (80 * k + 80)) Try.underlying107 sz5 rfl rfl (by omega) (by omega) (o5.cap.1)) rfl rfl rfl ?_
      have hx : ∀ w, Sb w (cutA A5 c5 (720 - (80 * k + 80)) 1) (80 * k + 80) ((rho s 720).drop (720 - (80 * k + 80))) → Sb w A4 (80 * k + 80) (fillTo [] (l.take k) ++ List.replicate 80 0#8) → Calls Try.prog 109 #[.slice A4 (80 * k + 80) c4, .slice (cutA A5 c5 (720 - (80 * k + 80)) 1) (720 - (720 - (80 * k + 80))) (c5 - (720 - (80 * k + 80)))] w fun e w' => ∃ A' c', e = .returned (.slice A' (80 * k + 80) c') ∧ Own w' w.heap.size 5 1 A' (80 * k + 80) c' ((xorB (fillTo [] (l.take k) ++ List.replicate 80 0#8) ((rho s 720).drop (720 - (80 * k + 80)))).map u8v) ∧ Le w w' := fun w h1 h2 => by
        rw [show 720 - (720 - (80 * k + 80)) = 80 * k + 80 by omega]
        exact xor_ok w h2 h1 (by omega)
      refine W.ef rfl rfl rfl ?_
      refine Ef.call go109 rfl rfl (hx w5_2 (by have h := o5.sb.cutL c5 (720 - (80 * k + 80)) (by omega) o5.cap.1; rwa [show 720 - (720 - (80 * k + 80)) = 80 * k + 80 by omega] at h) o4.sb) ?_
      rintro _ w5_7 ⟨A7, c7, rfl, o7, h5_7⟩
      refine ⟨_, rfl, ?_⟩
      have L5_7 := L5_2.trans h5_7
      refine W.any (.assign rfl) rfl rfl rfl ?_
      refine W.nil ?_
      refine E.blkN ?_
      refine E.thenN ?_
      refine WC.region ?_
      refine W.any (.add rfl rfl (by omega)) rfl rfl rfl ?_
      refine W.any (.move rfl) rfl rfl rfl ?_
      refine W.nil ?_
      refine E.again (k + 1, A7, c7) (.cons' rfl (slice_eq (by omega)) (.cons rfl (.cons rfl (.cons rfl (.nil _))))) ?_ ?_
      · exact ⟨by omega, L5_7, (o7.mono L5_2.size).cast (by omega) (by rw [fillTo_snoc l k s hs, fillS, hfl, zeros]; rfl)⟩
      · first | omega | (simp only []; omega)
    · have hkn : k = n - 1 := by omega
      subst hkn
      refine WC.exit ?_
      refine E.thenX ?_
      refine E.thenX ?_
      refine E.blkH ?_
      refine E.thenN ?_
      refine WC.seq ?_
      refine WC.region ?_
      refine W.any (.move rfl) rfl rfl rfl ?_
      refine W.any (.assign rfl) rfl rfl rfl ?_
      refine W.nil ?_
      refine E.thenN ?_
      refine WC.ret ?_
      refine E.ret1 rfl rfl ?_
      exact ⟨A1, cp, rfl, ol.cast rfl (by rw [filler, hll]), Ll⟩

theorem may_T (h : Hop) (ho : HopOk h) (hy : mayB h = true) (w : World) : Calls Try.prog 105 #[.agg (hopV h).toArray] w fun e w' => e = .returned (.bool true) ∧ Le w w' := by
  have := may_ok h ho w
  rwa [hy] at this

theorem may_F (h : Hop) (ho : HopOk h) (hy : mayB h = false) (w : World) : Calls Try.prog 105 #[.agg (hopV h).toArray] w fun e w' => e = .returned (.bool false) ∧ Le w w' := by
  have := may_ok h ho w
  rwa [hy] at this

set_option maxHeartbeats 2000000 in
theorem peel_ok (kk : Nat) (_hkk : kk < 18446744073709551616) {A : Option Addr} {n c : Nat} {xs : List Byte} (w : World) (hS : Sb w A n xs) (hc : n ≤ c) : Calls Try.prog 57 #[.int .u64 ((kk : Nat) : Int), .slice A n c] w fun e w' => ∃ A' m c', e = .returned (.tuple #[.agg (hopV (peelB kk xs).1).toArray, .slice A' m c', .agg ((peelB kk xs).2.2.1.map u8v).toArray, .int .i64 (peelB kk xs).2.2.2]) ∧ Own w' w.heap.size 5 1 A' m c' ((peelB kk xs).2.1.map u8v) ∧ Le w w' := by
  have hl := hS.len
  refine enter Try.func57 rfl rfl ?_
  have L0 := Le.refl w
  refine WC.seq ?_
  refine WC.region ?_
  refine W.ef rfl rfl rfl ?_
  refine Ef.allocA z95 ?_
  intro g0_0 w0_0 hg0_0 b0_0 h0_0
  have L0_0 := L0.trans h0_0
  have bh : Blk w0_0 g0_0 95 (hopV noHop).toArray := b0_0
  refine W.any (.assign rfl) rfl rfl rfl ?_
  refine W.ef rfl rfl rfl ?_
  refine Ef.allocA z89 ?_
  intro g0_2 w0_2 hg0_2 b0_2 h0_2
  have L0_2 := L0_0.trans h0_2
  have bh := bh.le h0_2
  have bs : Blk w0_2 g0_2 89 ((zeros 32).map u8v).toArray := b0_2
  have LL := Le.refl w0_2
  have hL0 := h0_0.trans h0_2
  have hS := hS.le hL0
  have hne : g0_0 ≠ g0_2 := by have := b0_0.lt; omega
  refine W.any (.assign rfl) rfl rfl rfl ?_
  refine W.nil ?_
  refine E.thenN ?_
  refine WC.seq ?_
  refine WC.seq ?_
  refine WC.region ?_
  refine W.any (.move rfl) rfl rfl rfl ?_
  by_cases h0 : kk = 0
  · refine W.any (.dec (.eql rfl rfl) (decide_eq_true (by omega))) rfl rfl rfl ?_
    refine W.any (.move rfl) rfl rfl rfl ?_
    refine W.skip rfl rfl rfl (rfl) rfl rfl ?_
    refine W.skip rfl rfl rfl (rfl) rfl rfl ?_
    refine W.skip rfl rfl rfl (rfl) rfl rfl ?_
    refine W.any (.pickT rfl rfl rfl) rfl rfl rfl ?_
    refine W.nil ?_
    refine E.thenN ?_
    refine WC.condT rfl ?_
    refine WC.seq ?_
    refine WC.drawS (fun w2 w' => Blk w' g0_0 95 (hopV noHop).toArray ∧ Blk w' g0_2 89 ((zeros 32).map u8v).toArray) [0, 1, 2, 3, 4, 5] mixed (by kernel_rfl) ?_
    intro w2 d2
    refine ⟨⟨(bh.le LL).le d2, (bs.le LL).le d2⟩, ?_⟩
    have L2 := LL.trans d2
    refine GS.rd rfl rfl (fun w' hs => .loadAll ag95 (by rfl) rfl hs.1) rfl rfl rfl ?_
    refine GS.rd rfl rfl (fun w' hs => .loadAll ag89 (by rfl) rfl hs.2) rfl rfl rfl ?_
    refine GS.ef0 rfl rfl rfl rfl ?_
    refine Ef.storeAll sz95 (by rfl) rfl rfl ((bh.le LL).le d2) (by rfl) (hopV_one _) ?_
    intro w2_2 b2_2 h2_2
    have L2_2 : Le w w2_2 := (hL0.trans L2).then_ h2_2 (fun q hq => by cases hq; exact hg0_0)
    have q2 := ((bs.le LL).le d2).ch h2_2 (by simp [hne])
    refine ⟨⟨b2_2, q2⟩, ?_⟩
    refine GS.any rfl rfl (.assign rfl) rfl rfl rfl ?_
    refine GS.ef0 rfl rfl rfl rfl ?_
    refine Ef.storeAll sz89 (by rfl) rfl rfl (q2) (by rfl) (all_u8v _) ?_
    intro w2_4 b2_4 h2_4
    have L2_4 : Le w w2_4 := L2_2.then_ h2_4 (fun q hq => by cases hq; exact Nat.le_trans h0_0.size hg0_2)
    have p2 := b2_2.ch h2_4 (by simp; exact fun h => hne h.symm)
    refine ⟨⟨p2, b2_4⟩, ?_⟩
    refine GS.any rfl rfl (.assign rfl) rfl rfl rfl ?_
    refine GS.nil ?_
    refine E.thenN ?_
    refine WC.ret ?_
    refine E.thenR ?_
    refine E.retCTCT rfl rfl rfl rfl rfl p2 ag95 (by rfl) b2_4 ag89 (by rfl) ?_
    rw [peelB, if_pos (.inl h0)]; exact ⟨none, 0, 0, rfl, Own.nil _ _ _ _ _, L2_4⟩
  · refine W.any (.dec (.eql rfl rfl) (decide_eq_false (by omega))) rfl rfl rfl ?_
    refine W.any (.move rfl) rfl rfl rfl ?_
    refine W.rdg (Any.rd (.move rfl) _) rfl rfl rfl (rfl) rfl rfl ?_
    by_cases hq : kk < q
    · refine W.efg rfl rfl rfl (rfl) rfl rfl ?_
      refine Ef.call go60 rfl rfl (fright_T kk hq w0_2) ?_
      rintro _ w1_4 ⟨rfl, h1_4⟩
      refine ⟨_, rfl, ?_⟩
      have L1_4 := LL.trans h1_4
      refine W.rdg (Any.rd (.not rfl) _) rfl rfl rfl (rfl) rfl rfl ?_
      refine W.any (.pickF rfl rfl rfl) rfl rfl rfl ?_
      refine W.nil ?_
      refine E.thenN ?_
      refine WC.condF rfl ?_
      refine WC.skip ?_
      refine E.thenN ?_
      refine WC.seq ?_
      refine WC.seq ?_
      refine WC.region ?_
      refine W.any (.move rfl) rfl rfl rfl ?_
      refine W.rd (.len Try.underlying107 rfl) rfl rfl rfl ?_
      refine W.any (.neq rfl rfl) rfl rfl rfl ?_
      refine W.nil ?_
      refine E.thenN ?_
      refine WC.cond rfl (fun h680 => ?_) (fun h680 => ?_)
      · refine WC.seq ?_
        refine WC.drawS (fun w4 w' => Blk w' g0_0 95 (hopV noHop).toArray ∧ Blk w' g0_2 89 ((zeros 32).map u8v).toArray) [0, 1, 2, 3, 4, 5] mixed (by kernel_rfl) ?_
        intro w4 d4
        refine ⟨⟨(bh.le L1_4).le d4, (bs.le L1_4).le d4⟩, ?_⟩
        have L4 := L1_4.trans d4
        refine GS.rd rfl rfl (fun w' hs => .loadAll ag95 (by rfl) rfl hs.1) rfl rfl rfl ?_
        refine GS.rd rfl rfl (fun w' hs => .loadAll ag89 (by rfl) rfl hs.2) rfl rfl rfl ?_
        refine GS.ef0 rfl rfl rfl rfl ?_
        refine Ef.storeAll sz95 (by rfl) rfl rfl ((bh.le L1_4).le d4) (by rfl) (hopV_one _) ?_
        intro w4_2 b4_2 h4_2
        have L4_2 : Le w w4_2 := (hL0.trans L4).then_ h4_2 (fun q hq => by cases hq; exact hg0_0)
        have q4 := ((bs.le L1_4).le d4).ch h4_2 (by simp [hne])
        refine ⟨⟨b4_2, q4⟩, ?_⟩
        refine GS.any rfl rfl (.assign rfl) rfl rfl rfl ?_
        refine GS.ef0 rfl rfl rfl rfl ?_
        refine Ef.storeAll sz89 (by rfl) rfl rfl (q4) (by rfl) (all_u8v _) ?_
        intro w4_4 b4_4 h4_4
        have L4_4 : Le w w4_4 := L4_2.then_ h4_4 (fun q hq => by cases hq; exact Nat.le_trans h0_0.size hg0_2)
        have p4 := b4_2.ch h4_4 (by simp; exact fun h => hne h.symm)
        refine ⟨⟨p4, b4_4⟩, ?_⟩
        refine GS.any rfl rfl (.assign rfl) rfl rfl rfl ?_
        refine GS.nil ?_
        refine E.thenN ?_
        refine WC.ret ?_
        refine E.thenR ?_
        refine E.retCTCT rfl rfl rfl rfl rfl p4 ag95 (by rfl) b4_4 ag89 (by rfl) ?_
        rw [peelB, if_neg (by omega), if_pos (by rw [hl]; omega)]; exact ⟨none, 0, 0, rfl, Own.nil _ _ _ _ _, L4_4⟩
      · have hn : n = 680 := by omega
        subst hn
        refine WC.skip ?_
        refine E.thenN ?_
        refine WC.seq ?_
        refine WC.draw [0, 2, 3, 4, 5, 1, 6, 7, 8] mixed (by kernel_rfl) ?_
        intro w5 d5
        have L5 := L1_4.trans d5
        refine G.any rfl rfl (.move rfl) rfl rfl rfl ?_
        refine G.any rfl rfl (.move rfl) rfl rfl rfl ?_
        refine G.any rfl rfl (.cut (8) (648) Try.underlying107 sz5 rfl rfl (rfl) rfl (rfl) (by decide) (by omega)) rfl rfl rfl ?_
        refine G.any rfl rfl (.move rfl) rfl rfl rfl ?_
        refine G.any rfl rfl (.cutL (648) Try.underlying107 sz5 rfl rfl (rfl) (by decide) (hc)) rfl rfl rfl ?_
        refine G.ef rfl rfl rfl rfl rfl ?_
        refine Ef.call go116 rfl rfl (number_ok w5 (hS.le L5) (by decide) hc) ?_
        rintro _ w5_1 ⟨rfl, h5_1⟩
        refine ⟨_, rfl, ?_⟩
        have L5_1 := L5.trans h5_1
        refine ⟨fun _ => h5_1, ?_⟩
        refine G.any rfl rfl (.assign rfl) rfl rfl rfl ?_
        refine G.any rfl rfl (.assign rfl) rfl rfl rfl ?_
        refine G.any rfl rfl (.assign rfl) rfl rfl rfl ?_
        refine G.nil ?_
        refine E.thenN ?_
        refine WC.seq ?_
        refine WC.seq ?_
        refine WC.region ?_
        refine W.any (.move rfl) rfl rfl rfl ?_
        by_cases h1 : numB xs = 1
        · refine W.any (.dec (.eql rfl rfl) (decide_eq_true (by omega))) rfl rfl rfl ?_
          refine W.any (.move rfl) rfl rfl rfl ?_
          refine W.skip rfl rfl rfl (rfl) rfl rfl ?_
          refine W.skip rfl rfl rfl (rfl) rfl rfl ?_
          refine W.skip rfl rfl rfl (rfl) rfl rfl ?_
          refine W.any (.pickT rfl rfl rfl) rfl rfl rfl ?_
          refine W.nil ?_
          refine E.thenN ?_
          refine WC.condT rfl ?_
          refine WC.seq ?_
          refine WC.drawS (fun w7 w' => Blk w' g0_0 95 (hopV noHop).toArray ∧ Blk w' g0_2 89 ((zeros 32).map u8v).toArray) [0, 1, 2, 3, 4, 5] mixed (by kernel_rfl) ?_
          intro w7 d7
          refine ⟨⟨(bh.le L5_1).le d7, (bs.le L5_1).le d7⟩, ?_⟩
          have L7 := L5_1.trans d7
          refine GS.rd rfl rfl (fun w' hs => .loadAll ag95 (by rfl) rfl hs.1) rfl rfl rfl ?_
          refine GS.rd rfl rfl (fun w' hs => .loadAll ag89 (by rfl) rfl hs.2) rfl rfl rfl ?_
          refine GS.ef0 rfl rfl rfl rfl ?_
          refine Ef.storeAll sz95 (by rfl) rfl rfl ((bh.le L5_1).le d7) (by rfl) (hopV_one _) ?_
          intro w7_2 b7_2 h7_2
          have L7_2 : Le w w7_2 := (hL0.trans L7).then_ h7_2 (fun q hq => by cases hq; exact hg0_0)
          have q7 := ((bs.le L5_1).le d7).ch h7_2 (by simp [hne])
          refine ⟨⟨b7_2, q7⟩, ?_⟩
          refine GS.any rfl rfl (.assign rfl) rfl rfl rfl ?_
          refine GS.ef0 rfl rfl rfl rfl ?_
          refine Ef.storeAll sz89 (by rfl) rfl rfl (q7) (by rfl) (all_u8v _) ?_
          intro w7_4 b7_4 h7_4
          have L7_4 : Le w w7_4 := L7_2.then_ h7_4 (fun q hq => by cases hq; exact Nat.le_trans h0_0.size hg0_2)
          have p7 := b7_2.ch h7_4 (by simp; exact fun h => hne h.symm)
          refine ⟨⟨p7, b7_4⟩, ?_⟩
          refine GS.any rfl rfl (.assign rfl) rfl rfl rfl ?_
          refine GS.nil ?_
          refine E.thenN ?_
          refine WC.ret ?_
          refine E.thenR ?_
          refine E.retCTCT rfl rfl rfl rfl rfl p7 ag95 (by rfl) b7_4 ag89 (by rfl) ?_
          rw [peelB, if_neg (by omega), if_neg (by rw [hl]; decide), if_pos (by rw [h1]; rfl)]; exact ⟨none, 0, 0, rfl, Own.nil _ _ _ _ _, L7_4⟩
        · refine W.any (.dec (.eql rfl rfl) (decide_eq_false (by omega))) rfl rfl rfl ?_
          refine W.any (.move rfl) rfl rfl rfl ?_
          refine W.rdg (Any.rd (.move rfl) _) rfl rfl rfl (rfl) rfl rfl ?_
          by_cases hr : right (numB xs) = true
          · refine W.efg rfl rfl rfl (rfl) rfl rfl ?_
            refine Ef.call go90 rfl rfl (pright_T _ (numB_lt xs) hr w5_1) ?_
            rintro _ w6_4 ⟨rfl, h6_4⟩
            refine ⟨_, rfl, ?_⟩
            have L6_4 := L5_1.trans h6_4
            refine W.rdg (Any.rd (.not rfl) _) rfl rfl rfl (rfl) rfl rfl ?_
            refine W.any (.pickF rfl rfl rfl) rfl rfl rfl ?_
            refine W.nil ?_
            refine E.thenN ?_
            refine WC.condF rfl ?_
            refine WC.skip ?_
            refine E.thenN ?_
            refine WC.seq ?_
            refine WC.region ?_
            refine W.any (.move rfl) rfl rfl rfl ?_
            refine W.any (.move rfl) rfl rfl rfl ?_
            refine W.any (.move rfl) rfl rfl rfl ?_
            refine W.ef rfl rfl rfl ?_
            refine Ef.call go93 rfl rfl (scale_ok _ kk (numB_lt xs) w6_4) ?_
            rintro _ w8_3 ⟨rfl, h8_3⟩
            refine ⟨_, rfl, ?_⟩
            have L8_3 := L6_4.trans h8_3
            refine W.ef rfl rfl rfl ?_
            refine Ef.call go117 rfl rfl (stopped_ok _ _ w8_3) ?_
            rintro _ w8_4 ⟨rfl, h8_4⟩
            refine ⟨_, rfl, ?_⟩
            have L8_4 := L8_3.trans h8_4
            refine W.ef rfl rfl rfl ?_
            refine Ef.allocA z179 ?_
            intro g8_5 w8_5 hg8_5 b8_5 h8_5
            have L8_5 := L8_4.trans h8_5
            refine W.ef0 rfl rfl ?_
            refine Ef.storeAll sz179 (by simp [stopV, sharedB_length]) rfl rfl (b8_5) (by simp [stopV, sharedB_length]) (stopV_one _) ?_
            intro w8_6 b8_6 h8_6
            have L8_6 : Le w0_2 w8_6 := L8_5.then_ h8_6 (fun q hq => by cases hq; exact Nat.le_trans L8_4.size hg8_5)
            obtain ⟨st, hst⟩ : ∃ st : Stop, st = (numB xs, sharedB (scale (numB xs) kk)) := ⟨_, rfl⟩
            have hst32 : st.2.length = 32 := by rw [hst]; exact sharedB_length _
            rw [← hst] at b8_6
            refine W.nil ?_
            refine E.thenN ?_
            refine WC.seq ?_
            refine WC.seq ?_
            refine WC.draw [0, 1, 3, 4, 5, 2, 6] mixed (by kernel_rfl) ?_
            intro w9 d9
            have L9 := L8_6.trans d9
            have bt := b8_6.le d9
            refine G.rd rfl rfl (.loadAll ag179 (by simp [stopV, hst32]) rfl (bt)) rfl rfl rfl ?_
            refine G.any rfl rfl (.move rfl) rfl rfl rfl ?_
            refine G.any rfl rfl (.move rfl) rfl rfl rfl ?_
            refine G.any rfl rfl (.arrPtr Try.underlying89 rfl (by decide)) rfl rfl rfl ?_
            refine G.rd rfl rfl (.loadSb ag89 rfl ((hS.le L9).cutL c 648 (by decide) hc) (by decide) (by decide)) rfl rfl rfl ?_
            refine G.ef rfl rfl rfl rfl rfl ?_
            refine Ef.call go114 rfl rfl (mac_ok st hst32 w9 ((hS.le L9).cut c 8 648 (by decide) (by decide) hc) (by decide)) ?_
            rintro _ w9_2 ⟨rfl, h9_2⟩
            refine ⟨_, rfl, ?_⟩
            have L9_2 := L9.trans h9_2
            refine ⟨fun _ => h9_2, ?_⟩
            refine G.any rfl rfl (.neA eg89 rfl rfl (Eqv.bytes (d := 9998) _ _ Try.underlying89 sz5 Try.underlying5 (macB_length _ _) (by rw [List.length_take, List.length_drop, hS.len]; decide))) rfl rfl rfl ?_
            refine G.nil ?_
            refine E.thenN ?_
            refine WC.condB rfl (fun hm => ?_) (fun hm => ?_)
            · have hmac : macB st ((xs.drop 8).take 640) ≠ xs.drop 648 := by rw [show (xs.drop 648).take 32 = xs.drop 648 from List.take_of_length_le (by rw [List.length_drop, hl]; decide)] at hm; simpa using hm
              refine WC.seq ?_
              refine WC.drawS (fun w10 w' => Blk w' g0_0 95 (hopV noHop).toArray ∧ Blk w' g0_2 89 ((zeros 32).map u8v).toArray) [0, 1, 2, 3, 4, 5] mixed (by kernel_rfl) ?_
              intro w10 d10
              refine ⟨⟨(bh.le L9_2).le d10, (bs.le L9_2).le d10⟩, ?_⟩
              have L10 := L9_2.trans d10
              refine GS.rd rfl rfl (fun w' hs => .loadAll ag95 (by rfl) rfl hs.1) rfl rfl rfl ?_
              refine GS.rd rfl rfl (fun w' hs => .loadAll ag89 (by rfl) rfl hs.2) rfl rfl rfl ?_
              refine GS.ef0 rfl rfl rfl rfl ?_
              refine Ef.storeAll sz95 (by rfl) rfl rfl ((bh.le L9_2).le d10) (by rfl) (hopV_one _) ?_
              intro w10_2 b10_2 h10_2
              have L10_2 : Le w w10_2 := (hL0.trans L10).then_ h10_2 (fun q hq => by cases hq; exact hg0_0)
              have q10 := ((bs.le L9_2).le d10).ch h10_2 (by simp [hne])
              refine ⟨⟨b10_2, q10⟩, ?_⟩
              refine GS.any rfl rfl (.assign rfl) rfl rfl rfl ?_
              refine GS.ef0 rfl rfl rfl rfl ?_
              refine Ef.storeAll sz89 (by rfl) rfl rfl (q10) (by rfl) (all_u8v _) ?_
              intro w10_4 b10_4 h10_4
              have L10_4 : Le w w10_4 := L10_2.then_ h10_4 (fun q hq => by cases hq; exact Nat.le_trans h0_0.size hg0_2)
              have p10 := b10_2.ch h10_4 (by simp; exact fun h => hne h.symm)
              refine ⟨⟨p10, b10_4⟩, ?_⟩
              refine GS.any rfl rfl (.assign rfl) rfl rfl rfl ?_
              refine GS.nil ?_
              refine E.thenN ?_
              refine WC.ret ?_
              refine E.thenR ?_
              refine E.retCTCT rfl rfl rfl rfl rfl p10 ag95 (by rfl) b10_4 ag89 (by rfl) ?_
              rw [peelB, if_neg (by omega), if_neg (by rw [hl]; decide), if_neg (by rw [keyOk_yes h1 hr]; decide), ← hst, if_pos hmac]; exact ⟨none, 0, 0, rfl, Own.nil _ _ _ _ _, L10_4⟩
            · have hmac : macB st ((xs.drop 8).take 640) = xs.drop 648 := by rw [show (xs.drop 648).take 32 = xs.drop 648 from List.take_of_length_le (by rw [List.length_drop, hl]; decide)] at hm; simpa using hm
              refine WC.skip ?_
              refine E.thenN ?_
              refine WC.seq ?_
              refine WC.draw [0, 4, 1, 2, 3, 5, 6, 7] mixed (by kernel_rfl) ?_
              intro w11 d11
              have L11 := L9_2.trans d11
              have bt := bt.le (h9_2.trans d11)
              refine G.any rfl rfl (.move rfl) rfl rfl rfl ?_
              refine G.rd rfl rfl (.loadAll ag179 (by simp [stopV, hst32]) rfl (bt)) rfl rfl rfl ?_
              refine G.ef rfl rfl rfl rfl rfl ?_
              refine Ef.makeSlice 80 80 Try.underlying107 el5 rfl rfl rfl rfl (by decide) (by decide) (by decide) ?_
              intro g11_1 w11_1 hg11_1 b11_1 h11_1
              have L11_1 := L11.trans h11_1
              refine ⟨fun _ => h11_1, ?_⟩
              have bz : Blk w11_1 g11_1 5 ((zeros 80).map u8v).toArray := b11_1.cast (made_u8 80)
              refine G.ef rfl rfl rfl rfl rfl ?_
              refine Ef.buildSliceN [_, _] Try.underlying211 el107 rfl (one2 _ _ _ _ _ _) rfl (by decide) (by decide) ?_
              intro g11_2 w11_2 hg11_2 b11_2 h11_2
              have L11_2 := L11_1.trans h11_2
              refine ⟨fun _ => h11_2, ?_⟩
              refine G.ef rfl rfl rfl rfl rfl ?_
              refine Ef.call go110 rfl rfl (concat_to ((xs.drop 8).take 640 ++ zeros 80) 720 w11_2 (b11_2.sl (s := 1) (n := 2) rfl) (.cons ((hS.le L11_2).cut c 8 648 (by decide) (by decide) hc) (.cons ((bz.le h11_2).sb (zeros_length 80)) (.nil _))) (by simp) (by simp [zeros_length, hS.len]) (by decide) (by decide) (by decide)) ?_
              rintro _ w11_3 ⟨A3, c3, rfl, o3, h11_3⟩
              refine ⟨_, rfl, ?_⟩
              have L11_3 := L11_2.trans h11_3
              refine ⟨fun _ => h11_3, ?_⟩
              refine G.ef rfl rfl rfl rfl rfl ?_
              refine Ef.call go112 rfl rfl (rho_ok st hst32 720 (by decide) w11_3) ?_
              rintro _ w11_5 ⟨A5, c5, rfl, o5, h11_5⟩
              refine ⟨_, rfl, ?_⟩
              have L11_5 := L11_3.trans h11_5
              refine ⟨fun _ => h11_5, ?_⟩
              refine G.ef rfl rfl rfl rfl rfl ?_
              refine Ef.call go109 rfl rfl (xor_ok w11_5 (o3.le h11_5).sb o5.sb (by decide)) ?_
              rintro _ w11_6 ⟨A6, c6, rfl, o6, h11_6⟩
              refine ⟨_, rfl, ?_⟩
              have L11_6 := L11_5.trans h11_6
              refine ⟨fun _ => h11_6, ?_⟩
              have o6 : Own w11_6 w11_5.heap.size 5 1 A6 720 c6 ((opened st ((xs.drop 8).take 640)).map u8v) := o6
              have ohl := o6.sb.len
              refine G.any rfl rfl (.assign rfl) rfl rfl rfl ?_
              refine G.nil ?_
              refine E.thenN ?_
              refine WC.seq ?_
              refine WC.seq ?_
              refine WC.region ?_
              refine W.any (.move rfl) rfl rfl rfl ?_
              refine W.ef rfl rfl rfl ?_
              refine Ef.call go118 rfl rfl (read_okO w11_6 o6.sb (by decide) o6.cap.1) ?_
              rintro _ w12_1 ⟨rfl, h12_1⟩
              refine ⟨_, rfl, ?_⟩
              have L12_1 := L11_6.trans h12_1
              refine W.ef0 rfl rfl ?_
              refine Ef.storeAll sz95 (by rfl) rfl rfl (bh.le L12_1) (by rfl) (hopV_one _) ?_
              intro w12_2 b12_2 h12_2
              have L12_2 : Le w w12_2 := (hL0.trans L12_1).then_ h12_2 (fun q hq => by cases hq; exact hg0_0)
              have bs2 := (bs.le L12_1).ch h12_2 (by simp [hne])
              have bt2 := (bt.le (h11_1.trans (h11_2.trans (h11_3.trans (h11_5.trans (h11_6.trans h12_1)))))).ch h12_2 (by simp; have := bh.lt; have := L8_4.size; omega)
              have all2 := (o6.sb.le h12_1).ch h12_2 (fun q hq => by cases hq; exact fun he => by obtain ⟨gA, hA, hgA, _⟩ := o6.lit (by decide); subst hA; simp [blkOf] at he; have := bh.lt; have := L11_5.size; omega)
              have bh2 := b12_2
              have hL2 := L12_2
              have LM := Le.refl w12_2
              obtain ⟨hh, hhh⟩ : ∃ hh, hh = readH (opened st ((xs.drop 8).take 640)) := ⟨_, rfl⟩
              have hho : HopOk hh := by rw [hhh]; exact readH_ok _
              rw [← hhh] at bh2
              refine W.nil ?_
              refine E.thenN ?_
              refine WC.seq ?_
              refine WC.region ?_
              refine W.rd (.loadAll ag95 (by rfl) rfl (bh2)) rfl rfl rfl ?_
              by_cases hy : mayB hh = true
              · refine W.ef rfl rfl rfl ?_
                refine Ef.call go105 rfl rfl (may_T hh hho hy w12_2) ?_
                rintro _ w13_1 ⟨rfl, h13_1⟩
                refine ⟨_, rfl, ?_⟩
                have L13_1 := LM.trans h13_1
                refine W.any (.not rfl) rfl rfl rfl ?_
                refine W.nil ?_
                refine E.thenN ?_
                refine WC.condF rfl ?_
                refine WC.skip ?_
                refine E.thenN ?_
                refine WC.seq ?_
                refine WC.seq ?_
                refine WC.region ?_
                refine W.any (.field0 fa95_0 rfl) rfl rfl rfl ?_
                refine W.rd (.loadB na3 rfl (bh2.le L13_1) (rfl)) rfl rfl rfl ?_
                refine W.any (.geq rfl rfl) rfl rfl rfl ?_
                refine W.nil ?_
                refine E.thenN ?_
                refine WC.cond rfl (fun hnx => ?_) (fun hnx => ?_)
                · obtain ⟨nx, hnxd⟩ : ∃ nx, nx = be8 (scale (numB xs) (blindB st)) ++ (opened st ((xs.drop 8).take 640)).drop 80 ++ ((opened st ((xs.drop 8).take 640)).drop 48).take 32 := ⟨_, rfl⟩
                  refine WC.draw [0, 1, 5, 6, 7, 8, 2, 3, 4, 9, 10, 11] mixed (by kernel_rfl) ?_
                  intro w16 d16
                  have L16 := L13_1.trans d16
                  have bt3 := bt2.le (L16)
                  have al3 := all2.le (L16)
                  refine G.any rfl rfl (.move rfl) rfl rfl rfl ?_
                  refine G.rd rfl rfl (.loadAll ag179 (by simp [stopV, hst32]) rfl (bt3)) rfl rfl rfl ?_
                  refine G.any rfl rfl (.move rfl) rfl rfl rfl ?_
                  refine G.any rfl rfl (.cutL (80) Try.underlying107 sz5 rfl rfl (rfl) (by decide) (o6.cap.1)) rfl rfl rfl ?_
                  refine G.any rfl rfl (.move rfl) rfl rfl rfl ?_
                  refine G.any rfl rfl (.cut (48) (80) Try.underlying107 sz5 rfl rfl (rfl) rfl (rfl) (by decide) (by have := o6.cap.1; omega)) rfl rfl rfl ?_
                  refine G.ef rfl rfl rfl rfl rfl ?_
                  refine Ef.call go119 rfl rfl (blind_ok st hst32 w16) ?_
                  rintro _ w16_2 ⟨rfl, h16_2⟩
                  refine ⟨_, rfl, ?_⟩
                  have L16_2 := L16.trans h16_2
                  refine ⟨fun _ => h16_2, ?_⟩
                  refine G.ef rfl rfl rfl rfl rfl ?_
                  refine Ef.call go93 rfl rfl (scale_ok _ _ (numB_lt xs) w16_2) ?_
                  rintro _ w16_3 ⟨rfl, h16_3⟩
                  refine ⟨_, rfl, ?_⟩
                  have L16_3 := L16_2.trans h16_3
                  refine ⟨fun _ => h16_3, ?_⟩
                  refine G.ef rfl rfl rfl rfl rfl ?_
                  refine Ef.call go115 rfl rfl (eight_ok _ w16_3) ?_
                  rintro _ w16_4 ⟨g16, rfl, hg16, B16, h16_4⟩
                  refine ⟨_, rfl, ?_⟩
                  have L16_4 := L16_3.trans h16_4
                  refine ⟨fun _ => h16_4, ?_⟩
                  refine G.ef rfl rfl rfl rfl rfl ?_
                  refine Ef.buildSliceN [_, _, _] Try.underlying211 el107 rfl one3 rfl (by decide) (by decide) ?_
                  intro g16_9 w16_9 hg16_9 b16_9 h16_9
                  have L16_9 := L16_4.trans h16_9
                  refine ⟨fun _ => h16_9, ?_⟩
                  refine G.ef rfl rfl rfl rfl rfl ?_
                  refine Ef.call go110 rfl rfl (concat_to nx 680 w16_9 (b16_9.sl (s := 1) (n := 3) rfl) (.cons ((B16.le h16_9).sb (be8_length _)) (.cons ((all2.le L16_9).cutL c6 80 (by decide) o6.cap.1) (.cons ((all2.le L16_9).cut c6 48 80 (by decide) (by decide) o6.cap.1) (.nil _)))) (by rw [hnxd]; simp) (by rw [hnxd]; simp [be8_length, ohl]) (by decide) (by decide) (by decide)) ?_
                  rintro _ w16_10 ⟨A10, c10, rfl, o10, h16_10⟩
                  refine ⟨_, rfl, ?_⟩
                  have L16_10 := L16_9.trans h16_10
                  refine ⟨fun _ => h16_10, ?_⟩
                  refine G.any rfl rfl (.assign rfl) rfl rfl rfl ?_
                  refine G.nil ?_
                  refine E.thenN ?_
                  refine WC.seq ?_
                  refine WC.drawS (fun w17 w' => Blk w' g0_0 95 (hopV hh).toArray ∧ Blk w' g8_5 179 (stopV st).toArray) [0, 1, 2, 3, 4, 5, 6, 7] mixed (by kernel_rfl) ?_
                  intro w17 d17
                  refine ⟨⟨(bh2.le L16_10).le d17, (bt2.le L16_10).le d17⟩, ?_⟩
                  have L17 := L16_10.trans d17
                  refine GS.rd rfl rfl (fun w' hs => .loadAll ag95 (by rfl) rfl hs.1) rfl rfl rfl ?_
                  refine GS.any rfl rfl (.move rfl) rfl rfl rfl ?_
                  refine GS.any rfl rfl (.field0 fa179_1 rfl) rfl rfl rfl ?_
                  refine GS.rd rfl rfl (fun w' hs => .as (Rd.loadSb ag89 rfl (hs.2.sbAt 1 32 st.2 hst32 (stopV_at st)) (by decide) (by decide)) (show _ = Value.agg (st.2.map u8v).toArray by rw [List.take_of_length_le (by omega)])) rfl rfl rfl ?_
                  refine GS.ef0 rfl rfl rfl rfl ?_
                  refine Ef.storeAll sz95 (by rfl) rfl rfl ((bh2.le L16_10).le d17) (by rfl) (hopV_one _) ?_
                  intro w17_4 b17_4 h17_4
                  have L17_4 : Le w w17_4 := (hL2.trans L17).then_ h17_4 (fun q hq => by cases hq; exact hg0_0)
                  have q17 := ((bs2.le L16_10).le d17).ch h17_4 (by simp [hne])
                  have t17 := ((bt2.le L16_10).le d17).ch h17_4 (by simp; have := bh.lt; have := L8_4.size; omega)
                  refine ⟨⟨b17_4, t17⟩, ?_⟩
                  refine GS.any rfl rfl (.assign rfl) rfl rfl rfl ?_
                  refine GS.ef0 rfl rfl rfl rfl ?_
                  refine Ef.storeAll sz89 (by simp [hst32]) rfl rfl (q17) (by simp [zeros, hst32]) (all_u8v _) ?_
                  intro w17_6 b17_6 h17_6
                  have L17_6 : Le w w17_6 := L17_4.then_ h17_6 (fun q hq => by cases hq; exact Nat.le_trans h0_0.size hg0_2)
                  have p17 := b17_4.ch h17_6 (by simp; exact fun h => hne h.symm)
                  refine ⟨⟨p17, t17.ch h17_6 (by simp; have := bs.lt; have := L8_4.size; omega)⟩, ?_⟩
                  refine GS.any rfl rfl (.assign rfl) rfl rfl rfl ?_
                  refine GS.nil ?_
                  refine E.thenN ?_
                  refine WC.ret ?_
                  refine E.retCTCT rfl rfl rfl rfl rfl p17 ag95 (by rfl) b17_6 ag89 (by simp [hst32]) ?_
                  rw [peelB, if_neg (by omega), if_neg (by rw [hl]; decide), if_neg (by rw [keyOk_yes h1 hr]; decide), ← hst, if_neg (by rw [hmac]; simp), ← hhh, if_neg (by rw [hy]; simp), ← hnxd, if_neg (by omega)]; exact ⟨A10, 680, c10, by rw [hst], (((o10.mono (hL2.trans L16_9).size).le d17).ch h17_4 (fun q hq => by cases hq; exact fun he => by have := (o10.row he).1; have := bh2.lt; have := L16_9.size; omega)).ch h17_6 (fun q hq => by cases hq; exact fun he => by have := (o10.row he).1; have := bs2.lt; have := L16_9.size; omega), L17_6⟩
                · refine WC.skip ?_
                  refine E.thenN ?_
                  refine WC.seq ?_
                  refine WC.drawS (fun w17 w' => Blk w' g0_0 95 (hopV hh).toArray ∧ Blk w' g8_5 179 (stopV st).toArray) [0, 1, 2, 3, 4, 5, 6, 7] mixed (by kernel_rfl) ?_
                  intro w17 d17
                  refine ⟨⟨(bh2.le L13_1).le d17, (bt2.le L13_1).le d17⟩, ?_⟩
                  have L17 := L13_1.trans d17
                  refine GS.rd rfl rfl (fun w' hs => .loadAll ag95 (by rfl) rfl hs.1) rfl rfl rfl ?_
                  refine GS.any rfl rfl (.move rfl) rfl rfl rfl ?_
                  refine GS.any rfl rfl (.field0 fa179_1 rfl) rfl rfl rfl ?_
                  refine GS.rd rfl rfl (fun w' hs => .as (Rd.loadSb ag89 rfl (hs.2.sbAt 1 32 st.2 hst32 (stopV_at st)) (by decide) (by decide)) (show _ = Value.agg (st.2.map u8v).toArray by rw [List.take_of_length_le (by omega)])) rfl rfl rfl ?_
                  refine GS.ef0 rfl rfl rfl rfl ?_
                  refine Ef.storeAll sz95 (by rfl) rfl rfl ((bh2.le L13_1).le d17) (by rfl) (hopV_one _) ?_
                  intro w17_4 b17_4 h17_4
                  have L17_4 : Le w w17_4 := (hL2.trans L17).then_ h17_4 (fun q hq => by cases hq; exact hg0_0)
                  have q17 := ((bs2.le L13_1).le d17).ch h17_4 (by simp [hne])
                  have t17 := ((bt2.le L13_1).le d17).ch h17_4 (by simp; have := bh.lt; have := L8_4.size; omega)
                  refine ⟨⟨b17_4, t17⟩, ?_⟩
                  refine GS.any rfl rfl (.assign rfl) rfl rfl rfl ?_
                  refine GS.ef0 rfl rfl rfl rfl ?_
                  refine Ef.storeAll sz89 (by simp [hst32]) rfl rfl (q17) (by simp [zeros, hst32]) (all_u8v _) ?_
                  intro w17_6 b17_6 h17_6
                  have L17_6 : Le w w17_6 := L17_4.then_ h17_6 (fun q hq => by cases hq; exact Nat.le_trans h0_0.size hg0_2)
                  have p17 := b17_4.ch h17_6 (by simp; exact fun h => hne h.symm)
                  refine ⟨⟨p17, t17.ch h17_6 (by simp; have := bs.lt; have := L8_4.size; omega)⟩, ?_⟩
                  refine GS.any rfl rfl (.assign rfl) rfl rfl rfl ?_
                  refine GS.nil ?_
                  refine E.thenN ?_
                  refine WC.ret ?_
                  refine E.retCTCT rfl rfl rfl rfl rfl p17 ag95 (by rfl) b17_6 ag89 (by simp [hst32]) ?_
                  rw [peelB, if_neg (by omega), if_neg (by rw [hl]; decide), if_neg (by rw [keyOk_yes h1 hr]; decide), ← hst, if_neg (by rw [hmac]; simp), ← hhh, if_neg (by rw [hy]; simp), if_pos (by omega)]; exact ⟨none, 0, 0, by rw [hst], Own.nil _ _ _ _ _, L17_6⟩
              · refine W.ef rfl rfl rfl ?_
                refine Ef.call go105 rfl rfl (may_F hh hho (by simpa using hy) w12_2) ?_
                rintro _ w13_1 ⟨rfl, h13_1⟩
                refine ⟨_, rfl, ?_⟩
                have L13_1 := LM.trans h13_1
                refine W.any (.not rfl) rfl rfl rfl ?_
                refine W.nil ?_
                refine E.thenN ?_
                refine WC.condT rfl ?_
                refine WC.seq ?_
                refine WC.drawS (fun w14 w' => Blk w' g0_2 89 ((zeros 32).map u8v).toArray) [0, 1, 2, 3, 4, 5] mixed (by kernel_rfl) ?_
                intro w14 d14
                refine ⟨(bs2.le L13_1).le d14, ?_⟩
                have L14 := L13_1.trans d14
                refine GS.any rfl rfl (.buildF pl95 z95 rfl (show Instr.fill _ _ _ = some (hopV noHop).toArray from rfl)) rfl rfl rfl ?_
                refine GS.rd rfl rfl (fun w' hs => .loadAll ag89 (by rfl) rfl hs) rfl rfl rfl ?_
                refine GS.ef0 rfl rfl rfl rfl ?_
                refine Ef.storeAll sz95 (by rfl) rfl rfl ((bh2.le L13_1).le d14) (by rfl) (hopV_one _) ?_
                intro w14_2 b14_2 h14_2
                have L14_2 : Le w w14_2 := (hL2.trans L14).then_ h14_2 (fun q hq => by cases hq; exact hg0_0)
                have q14 := ((bs2.le L13_1).le d14).ch h14_2 (by simp [hne])
                refine ⟨q14, ?_⟩
                refine GS.any rfl rfl (.assign rfl) rfl rfl rfl ?_
                refine GS.ef0 rfl rfl rfl rfl ?_
                refine Ef.storeAll sz89 (by rfl) rfl rfl (q14) (by rfl) (all_u8v _) ?_
                intro w14_4 b14_4 h14_4
                have L14_4 : Le w w14_4 := L14_2.then_ h14_4 (fun q hq => by cases hq; exact Nat.le_trans h0_0.size hg0_2)
                have p14 := b14_2.ch h14_4 (by simp; exact fun h => hne h.symm)
                refine ⟨b14_4, ?_⟩
                refine GS.any rfl rfl (.assign rfl) rfl rfl rfl ?_
                refine GS.nil ?_
                refine E.thenN ?_
                refine WC.ret ?_
                refine E.thenR ?_
                refine E.retCTCT rfl rfl rfl rfl rfl p14 ag95 (by rfl) b14_4 ag89 (by rfl) ?_
                rw [peelB, if_neg (by omega), if_neg (by rw [hl]; decide), if_neg (by rw [keyOk_yes h1 hr]; decide), ← hst, if_neg (by rw [hmac]; simp), ← hhh, if_pos (by simpa using hy)]; exact ⟨none, 0, 0, rfl, Own.nil _ _ _ _ _, L14_4⟩
          · refine W.efg rfl rfl rfl (rfl) rfl rfl ?_
            refine Ef.call go90 rfl rfl (pright_F _ (numB_lt xs) (by simpa using hr) w5_1) ?_
            rintro _ w6_4 ⟨rfl, h6_4⟩
            refine ⟨_, rfl, ?_⟩
            have L6_4 := L5_1.trans h6_4
            refine W.rdg (Any.rd (.not rfl) _) rfl rfl rfl (rfl) rfl rfl ?_
            refine W.any (.pickF rfl rfl rfl) rfl rfl rfl ?_
            refine W.nil ?_
            refine E.thenN ?_
            refine WC.condT rfl ?_
            refine WC.seq ?_
            refine WC.drawS (fun w7 w' => Blk w' g0_0 95 (hopV noHop).toArray ∧ Blk w' g0_2 89 ((zeros 32).map u8v).toArray) [0, 1, 2, 3, 4, 5] mixed (by kernel_rfl) ?_
            intro w7 d7
            refine ⟨⟨(bh.le L6_4).le d7, (bs.le L6_4).le d7⟩, ?_⟩
            have L7 := L6_4.trans d7
            refine GS.rd rfl rfl (fun w' hs => .loadAll ag95 (by rfl) rfl hs.1) rfl rfl rfl ?_
            refine GS.rd rfl rfl (fun w' hs => .loadAll ag89 (by rfl) rfl hs.2) rfl rfl rfl ?_
            refine GS.ef0 rfl rfl rfl rfl ?_
            refine Ef.storeAll sz95 (by rfl) rfl rfl ((bh.le L6_4).le d7) (by rfl) (hopV_one _) ?_
            intro w7_2 b7_2 h7_2
            have L7_2 : Le w w7_2 := (hL0.trans L7).then_ h7_2 (fun q hq => by cases hq; exact hg0_0)
            have q7 := ((bs.le L6_4).le d7).ch h7_2 (by simp [hne])
            refine ⟨⟨b7_2, q7⟩, ?_⟩
            refine GS.any rfl rfl (.assign rfl) rfl rfl rfl ?_
            refine GS.ef0 rfl rfl rfl rfl ?_
            refine Ef.storeAll sz89 (by rfl) rfl rfl (q7) (by rfl) (all_u8v _) ?_
            intro w7_4 b7_4 h7_4
            have L7_4 : Le w w7_4 := L7_2.then_ h7_4 (fun q hq => by cases hq; exact Nat.le_trans h0_0.size hg0_2)
            have p7 := b7_2.ch h7_4 (by simp; exact fun h => hne h.symm)
            refine ⟨⟨p7, b7_4⟩, ?_⟩
            refine GS.any rfl rfl (.assign rfl) rfl rfl rfl ?_
            refine GS.nil ?_
            refine E.thenN ?_
            refine WC.ret ?_
            refine E.thenR ?_
            refine E.retCTCT rfl rfl rfl rfl rfl p7 ag95 (by rfl) b7_4 ag89 (by rfl) ?_
            rw [peelB, if_neg (by omega), if_neg (by rw [hl]; decide), if_pos (keyOk_no (by simpa using hr))]; exact ⟨none, 0, 0, rfl, Own.nil _ _ _ _ _, L7_4⟩
    · refine W.efg rfl rfl rfl (rfl) rfl rfl ?_
      refine Ef.call go60 rfl rfl (fright_F kk hq w0_2) ?_
      rintro _ w1_4 ⟨rfl, h1_4⟩
      refine ⟨_, rfl, ?_⟩
      have L1_4 := LL.trans h1_4
      refine W.rdg (Any.rd (.not rfl) _) rfl rfl rfl (rfl) rfl rfl ?_
      refine W.any (.pickF rfl rfl rfl) rfl rfl rfl ?_
      refine W.nil ?_
      refine E.thenN ?_
      refine WC.condT rfl ?_
      refine WC.seq ?_
      refine WC.drawS (fun w2 w' => Blk w' g0_0 95 (hopV noHop).toArray ∧ Blk w' g0_2 89 ((zeros 32).map u8v).toArray) [0, 1, 2, 3, 4, 5] mixed (by kernel_rfl) ?_
      intro w2 d2
      refine ⟨⟨(bh.le L1_4).le d2, (bs.le L1_4).le d2⟩, ?_⟩
      have L2 := L1_4.trans d2
      refine GS.rd rfl rfl (fun w' hs => .loadAll ag95 (by rfl) rfl hs.1) rfl rfl rfl ?_
      refine GS.rd rfl rfl (fun w' hs => .loadAll ag89 (by rfl) rfl hs.2) rfl rfl rfl ?_
      refine GS.ef0 rfl rfl rfl rfl ?_
      refine Ef.storeAll sz95 (by rfl) rfl rfl ((bh.le L1_4).le d2) (by rfl) (hopV_one _) ?_
      intro w2_2 b2_2 h2_2
      have L2_2 : Le w w2_2 := (hL0.trans L2).then_ h2_2 (fun q hq => by cases hq; exact hg0_0)
      have q2 := ((bs.le L1_4).le d2).ch h2_2 (by simp [hne])
      refine ⟨⟨b2_2, q2⟩, ?_⟩
      refine GS.any rfl rfl (.assign rfl) rfl rfl rfl ?_
      refine GS.ef0 rfl rfl rfl rfl ?_
      refine Ef.storeAll sz89 (by rfl) rfl rfl (q2) (by rfl) (all_u8v _) ?_
      intro w2_4 b2_4 h2_4
      have L2_4 : Le w w2_4 := L2_2.then_ h2_4 (fun q hq => by cases hq; exact Nat.le_trans h0_0.size hg0_2)
      have p2 := b2_2.ch h2_4 (by simp; exact fun h => hne h.symm)
      refine ⟨⟨p2, b2_4⟩, ?_⟩
      refine GS.any rfl rfl (.assign rfl) rfl rfl rfl ?_
      refine GS.nil ?_
      refine E.thenN ?_
      refine WC.ret ?_
      refine E.thenR ?_
      refine E.retCTCT rfl rfl rfl rfl rfl p2 ag95 (by rfl) b2_4 ag89 (by rfl) ?_
      rw [peelB, if_pos (.inr (by omega))]; exact ⟨none, 0, 0, rfl, Own.nil _ _ _ _ _, L2_4⟩
end Go.Proofs.Ytfgakofjkldcjaa

namespace Go.Sx
open Go Go.RowKit
end Go.Sx
namespace Go.Proofs.Ytfgakofjkldcjaa
open Go Go.Sx Go.Hsp Go.Num Go.Osp
set_option maxRecDepth 20000
theorem plus_ok (a b : Nat) (ha : a < 2305843009213688669) (hb : b < 2305843009213688669) (w : World) : Calls Try.prog 103 #[.int .u64 ((a : Nat) : Int), .int .u64 ((b : Nat) : Int)] w fun e w' => e = .returned (.int .u64 (((a + b) % q : Nat) : Int)) ∧ Le w w' := by
  refine enter Try.func103 rfl rfl ?_
  have L0 := Le.refl w
  refine WC.seq ?_
  refine WC.region ?_
  refine W.any (.assign rfl) rfl rfl rfl ?_
  refine W.nil ?_
  refine E.thenN ?_
  refine WC.seq ?_
  refine WC.region ?_
  refine W.any (.move rfl) rfl rfl rfl ?_
  refine W.any (.move rfl) rfl rfl rfl ?_
  refine W.any (.addN (a) (b) (a + b) rfl rfl rfl rfl (Nat.mod_eq_of_lt (by omega))) rfl rfl rfl ?_
  refine W.any (.remN (a + b) (2305843009213688669) ((a + b) % 2305843009213688669) rfl rfl rfl rfl (by decide) (rfl)) rfl rfl rfl ?_
  refine W.any (.assign rfl) rfl rfl rfl ?_
  refine W.nil ?_
  refine E.thenN ?_
  refine WC.ret ?_
  refine E.ret1 rfl rfl ?_
  exact ⟨rfl, L0⟩

theorem fadd_ok (a b : Nat) (w : World) : Calls Try.prog 55 #[.int .u64 ((a : Nat) : Int), .int .u64 ((b : Nat) : Int)] w fun e w' => e = .returned (.int .u64 ((addS a b : Nat) : Int)) ∧ Le w w' := by
  refine enter Try.func55 rfl rfl ?_
  have L0 := Le.refl w
  refine WC.seq ?_
  refine WC.region ?_
  refine W.any (.assign rfl) rfl rfl rfl ?_
  refine W.nil ?_
  refine E.thenN ?_
  refine WC.seq ?_
  refine WC.region ?_
  refine W.any (.move rfl) rfl rfl rfl ?_
  refine W.ef rfl rfl rfl ?_
  refine Ef.call go102 rfl rfl (of_ok a w) ?_
  rintro _ w1_1 ⟨rfl, h1_1⟩
  refine ⟨_, rfl, ?_⟩
  have L1_1 := L0.trans h1_1
  refine W.any (.move rfl) rfl rfl rfl ?_
  refine W.ef rfl rfl rfl ?_
  refine Ef.call go102 rfl rfl (of_ok b w1_1) ?_
  rintro _ w1_3 ⟨rfl, h1_3⟩
  refine ⟨_, rfl, ?_⟩
  have L1_3 := L1_1.trans h1_3
  refine W.ef rfl rfl rfl ?_
  refine Ef.call go103 rfl rfl (plus_ok (a % q) (b % q) (Nat.mod_lt _ (by decide)) (Nat.mod_lt _ (by decide)) w1_3) ?_
  rintro _ w1_4 ⟨rfl, h1_4⟩
  refine ⟨_, rfl, ?_⟩
  have L1_4 := L1_3.trans h1_4
  refine W.any (.assign rfl) rfl rfl rfl ?_
  refine W.nil ?_
  refine E.thenN ?_
  refine WC.ret ?_
  refine E.ret1 rfl rfl ?_
  exact ⟨rfl, L1_4⟩

end Go.Proofs.Ytfgakofjkldcjaa

