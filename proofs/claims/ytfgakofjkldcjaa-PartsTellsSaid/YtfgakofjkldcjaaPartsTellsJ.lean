/- PartsTells: for every input the law answers true and leaves its arguments as they were. -/
import Derived.Test.YtfgakofjkldcjaaPartsTellsI
import Derived.OrdersHeld
import Derived.WalkKit
import Derived.Deep.AppendSrc
import Derived.Deep.MidRow
import Derived.Laws.OwnMore
import Derived.WalkSpells
import Derived.Lib.ConvBytes
import Derived.Lib.AppendZerosOnto
import Derived.Laws.StructEq
import Derived.Maps.RangeRun
import Derived.Laws.Pointers
import Derived.Test.YtfgakofjkldcjaaProg
import Derived.KernelRfl
import Derived.Lib.Mul64
namespace Go.Proofs.Ytfgakofjkldcjaa
open Go Go.Sx
set_option maxRecDepth 20000
theorem mul64_ok (x y : Nat) (hx : x < 18446744073709551616) (hy : y < 18446744073709551616) (w : World) : Calls Try.prog 157 #[.int .u64 ((x : Nat) : Int), .int .u64 ((y : Nat) : Int)] w fun e w' => e = .returned (.tuple #[.int .u64 ((x * y / 18446744073709551616 : Nat) : Int), .int .u64 ((x * y % 18446744073709551616 : Nat) : Int)]) ∧ Le w w' := by
  obtain ⟨h1, h2, h3, h4⟩ := Go.Lib.mul64_hi x y hx hy
  have h5 : x * y / 18446744073709551616 < 18446744073709551616 := by
    rw [Nat.div_lt_iff_lt_mul (by decide)]
    exact Nat.mul_lt_mul'' hx hy
  have ha := Go.Lib.half_mul_le (a := x / 4294967296) (b := y / 4294967296) (by omega) (by omega)
  have hb := Go.Lib.half_mul_le (a := x / 4294967296) (b := y % 4294967296) (by omega) (by omega)
  have hc := Go.Lib.half_mul_le (a := x % 4294967296) (b := y / 4294967296) (by omega) (by omega)
  refine enter Try.func157 rfl rfl ?_
  have L0 := Le.refl w
  refine WC.seq ?_
  refine WC.region ?_
  refine W.any (.assign rfl) rfl rfl rfl ?_
  refine W.any (.assign rfl) rfl rfl rfl ?_
  refine W.nil ?_
  refine E.thenN ?_
  refine WC.seq ?_
  refine WC.region ?_
  refine W.any (.move rfl) rfl rfl rfl ?_
  refine W.any (.andE (x) (4294967295) (x % 4294967296) rfl rfl rfl rfl (by omega) (by omega) (mask32 _)) rfl rfl rfl ?_
  refine W.any (.assign rfl) rfl rfl rfl ?_
  refine W.nil ?_
  refine E.thenN ?_
  refine WC.seq ?_
  refine WC.region ?_
  refine W.any (.move rfl) rfl rfl rfl ?_
  refine W.any (.shrE (x) (32) (x / 4294967296) rfl rfl rfl rfl (by decide) (rfl)) rfl rfl rfl ?_
  refine W.any (.assign rfl) rfl rfl rfl ?_
  refine W.nil ?_
  refine E.thenN ?_
  refine WC.seq ?_
  refine WC.region ?_
  refine W.any (.move rfl) rfl rfl rfl ?_
  refine W.any (.andE (y) (4294967295) (y % 4294967296) rfl rfl rfl rfl (by omega) (by omega) (mask32 _)) rfl rfl rfl ?_
  refine W.any (.assign rfl) rfl rfl rfl ?_
  refine W.nil ?_
  refine E.thenN ?_
  refine WC.seq ?_
  refine WC.region ?_
  refine W.any (.move rfl) rfl rfl rfl ?_
  refine W.any (.shrE (y) (32) (y / 4294967296) rfl rfl rfl rfl (by decide) (rfl)) rfl rfl rfl ?_
  refine W.any (.assign rfl) rfl rfl rfl ?_
  refine W.nil ?_
  refine E.thenN ?_
  refine WC.seq ?_
  refine WC.region ?_
  refine W.any (.move rfl) rfl rfl rfl ?_
  refine W.any (.move rfl) rfl rfl rfl ?_
  refine W.any (.mulN (x % 4294967296) (y % 4294967296) ((x % 4294967296) * (y % 4294967296)) rfl rfl rfl rfl (Nat.mod_eq_of_lt h1)) rfl rfl rfl ?_
  refine W.any (.assign rfl) rfl rfl rfl ?_
  refine W.nil ?_
  refine E.thenN ?_
  refine WC.seq ?_
  refine WC.region ?_
  refine W.any (.move rfl) rfl rfl rfl ?_
  refine W.any (.move rfl) rfl rfl rfl ?_
  refine W.any (.mulN (x / 4294967296) (y % 4294967296) ((x / 4294967296) * (y % 4294967296)) rfl rfl rfl rfl (Nat.mod_eq_of_lt (by omega))) rfl rfl rfl ?_
  refine W.any (.move rfl) rfl rfl rfl ?_
  refine W.any (.shrE ((x % 4294967296) * (y % 4294967296)) (32) ((x % 4294967296) * (y % 4294967296) / 4294967296) rfl rfl rfl rfl (by decide) (rfl)) rfl rfl rfl ?_
  refine W.any (.addN ((x / 4294967296) * (y % 4294967296)) ((x % 4294967296) * (y % 4294967296) / 4294967296) ((x / 4294967296) * (y % 4294967296) + (x % 4294967296) * (y % 4294967296) / 4294967296) rfl rfl rfl rfl (Nat.mod_eq_of_lt h2)) rfl rfl rfl ?_
  refine W.any (.assign rfl) rfl rfl rfl ?_
  refine W.nil ?_
  refine E.thenN ?_
  refine WC.seq ?_
  refine WC.region ?_
  refine W.any (.move rfl) rfl rfl rfl ?_
  refine W.any (.andE ((x / 4294967296) * (y % 4294967296) + (x % 4294967296) * (y % 4294967296) / 4294967296) (4294967295) (((x / 4294967296) * (y % 4294967296) + (x % 4294967296) * (y % 4294967296) / 4294967296) % 4294967296) rfl rfl rfl rfl (by omega) (by omega) (mask32 _)) rfl rfl rfl ?_
  refine W.any (.assign rfl) rfl rfl rfl ?_
  refine W.nil ?_
  refine E.thenN ?_
  refine WC.seq ?_
  refine WC.region ?_
  refine W.any (.move rfl) rfl rfl rfl ?_
  refine W.any (.shrE ((x / 4294967296) * (y % 4294967296) + (x % 4294967296) * (y % 4294967296) / 4294967296) (32) (((x / 4294967296) * (y % 4294967296) + (x % 4294967296) * (y % 4294967296) / 4294967296) / 4294967296) rfl rfl rfl rfl (by decide) (rfl)) rfl rfl rfl ?_
  refine W.any (.assign rfl) rfl rfl rfl ?_
  refine W.nil ?_
  refine E.thenN ?_
  refine WC.seq ?_
  refine WC.region ?_
  refine W.any (.move rfl) rfl rfl rfl ?_
  refine W.any (.move rfl) rfl rfl rfl ?_
  refine W.any (.move rfl) rfl rfl rfl ?_
  refine W.any (.mulN (x % 4294967296) (y / 4294967296) ((x % 4294967296) * (y / 4294967296)) rfl rfl rfl rfl (Nat.mod_eq_of_lt (by omega))) rfl rfl rfl ?_
  refine W.any (.addN (((x / 4294967296) * (y % 4294967296) + (x % 4294967296) * (y % 4294967296) / 4294967296) % 4294967296) ((x % 4294967296) * (y / 4294967296)) (((x / 4294967296) * (y % 4294967296) + (x % 4294967296) * (y % 4294967296) / 4294967296) % 4294967296 + (x % 4294967296) * (y / 4294967296)) rfl rfl rfl rfl (Nat.mod_eq_of_lt h3)) rfl rfl rfl ?_
  refine W.any (.assign rfl) rfl rfl rfl ?_
  refine W.nil ?_
  refine E.thenN ?_
  refine WC.seq ?_
  refine WC.region ?_
  refine W.any (.move rfl) rfl rfl rfl ?_
  refine W.any (.move rfl) rfl rfl rfl ?_
  refine W.any (.mulN (x / 4294967296) (y / 4294967296) ((x / 4294967296) * (y / 4294967296)) rfl rfl rfl rfl (Nat.mod_eq_of_lt (by omega))) rfl rfl rfl ?_
  refine W.any (.move rfl) rfl rfl rfl ?_
  refine W.any (.addN ((x / 4294967296) * (y / 4294967296)) (((x / 4294967296) * (y % 4294967296) + (x % 4294967296) * (y % 4294967296) / 4294967296) / 4294967296) ((x / 4294967296) * (y / 4294967296) + ((x / 4294967296) * (y % 4294967296) + (x % 4294967296) * (y % 4294967296) / 4294967296) / 4294967296) rfl rfl rfl rfl (Nat.mod_eq_of_lt (by omega))) rfl rfl rfl ?_
  refine W.any (.move rfl) rfl rfl rfl ?_
  refine W.any (.shrE (((x / 4294967296) * (y % 4294967296) + (x % 4294967296) * (y % 4294967296) / 4294967296) % 4294967296 + (x % 4294967296) * (y / 4294967296)) (32) ((((x / 4294967296) * (y % 4294967296) + (x % 4294967296) * (y % 4294967296) / 4294967296) % 4294967296 + (x % 4294967296) * (y / 4294967296)) / 4294967296) rfl rfl rfl rfl (by decide) (rfl)) rfl rfl rfl ?_
  refine W.any (.addN ((x / 4294967296) * (y / 4294967296) + ((x / 4294967296) * (y % 4294967296) + (x % 4294967296) * (y % 4294967296) / 4294967296) / 4294967296) ((((x / 4294967296) * (y % 4294967296) + (x % 4294967296) * (y % 4294967296) / 4294967296) % 4294967296 + (x % 4294967296) * (y / 4294967296)) / 4294967296) (x * y / 18446744073709551616) rfl rfl rfl rfl ((Nat.mod_eq_of_lt (by rw [h4]; exact h5)).trans h4)) rfl rfl rfl ?_
  refine W.any (.assign rfl) rfl rfl rfl ?_
  refine W.nil ?_
  refine E.thenN ?_
  refine WC.seq ?_
  refine WC.region ?_
  refine W.any (.move rfl) rfl rfl rfl ?_
  refine W.any (.move rfl) rfl rfl rfl ?_
  refine W.any (.mulN (x) (y) (x * y % 18446744073709551616) rfl rfl rfl rfl (rfl)) rfl rfl rfl ?_
  refine W.any (.assign rfl) rfl rfl rfl ?_
  refine W.nil ?_
  refine E.thenN ?_
  refine WC.ret ?_
  refine E.ret2 rfl rfl rfl ?_
  exact ⟨rfl, L0⟩

def tab8 : ByteArray := ⟨[0, 1, 2, 2, 3, 3, 3, 3, 4, 4, 4, 4, 4, 4, 4, 4, 5, 5, 5, 5, 5, 5, 5, 5, 5, 5, 5, 5, 5, 5, 5, 5, 6, 6, 6, 6, 6, 6, 6, 6, 6, 6, 6, 6, 6, 6, 6, 6, 6, 6, 6, 6, 6, 6, 6, 6, 6, 6, 6, 6, 6, 6, 6, 6, 7, 7, 7, 7, 7, 7, 7, 7, 7, 7, 7, 7, 7, 7, 7, 7, 7, 7, 7, 7, 7, 7, 7, 7, 7, 7, 7, 7, 7, 7, 7, 7, 7, 7, 7, 7, 7, 7, 7, 7, 7, 7, 7, 7, 7, 7, 7, 7, 7, 7, 7, 7, 7, 7, 7, 7, 7, 7, 7, 7, 7, 7, 7, 7, 8, 8, 8, 8, 8, 8, 8, 8, 8, 8, 8, 8, 8, 8, 8, 8, 8, 8, 8, 8, 8, 8, 8, 8, 8, 8, 8, 8, 8, 8, 8, 8, 8, 8, 8, 8, 8, 8, 8, 8, 8, 8, 8, 8, 8, 8, 8, 8, 8, 8, 8, 8, 8, 8, 8, 8, 8, 8, 8, 8, 8, 8, 8, 8, 8, 8, 8, 8, 8, 8, 8, 8, 8, 8, 8, 8, 8, 8, 8, 8, 8, 8, 8, 8, 8, 8, 8, 8, 8, 8, 8, 8, 8, 8, 8, 8, 8, 8, 8, 8, 8, 8, 8, 8, 8, 8, 8, 8, 8, 8, 8, 8, 8, 8, 8, 8, 8, 8, 8, 8, 8, 8, 8, 8, 8, 8, 8, 8].toArray⟩

theorem len8 : ∀ m, 16 ≤ m → m < 64 → tab8[m]? = some (if m < 32 then 5 else 6) := by
  have h : ∀ m : Fin 64, 16 ≤ m.val → tab8[m.val]? = some (if m.val < 32 then 5 else 6) := by decide +kernel
  exact fun m h1 h2 => h ⟨m, h2⟩ h1

theorem len64_ok (y : Nat) (h1 : 1152921504606846976 ≤ y) (h2 : y < 4611686018427387904) (w : World) : Calls Try.prog 179 #[.int .u64 ((y : Nat) : Int)] w fun e w' => e = .returned (.int .i64 (if y < 2305843009213693952 then 61 else 62)) ∧ Le w w' := by
  refine enter Try.func179 rfl rfl ?_
  have L0 := Le.refl w
  refine WC.seq ?_
  refine WC.region ?_
  refine W.any (.assign rfl) rfl rfl rfl ?_
  refine W.nil ?_
  refine E.thenN ?_
  refine WC.seq ?_
  refine WC.seq ?_
  refine WC.region ?_
  refine W.any (.move rfl) rfl rfl rfl ?_
  refine W.any (.geq rfl rfl) rfl rfl rfl ?_
  refine W.nil ?_
  refine E.thenN ?_
  refine WC.condB rfl (fun _ => ?_) (fun h => absurd h (by simp; omega))
  refine WC.seq ?_
  refine WC.region ?_
  refine W.any (.move rfl) rfl rfl rfl ?_
  refine W.any (.shrE (y) (32) (y / 4294967296) rfl rfl rfl rfl (by decide) (rfl)) rfl rfl rfl ?_
  refine W.any (.assign rfl) rfl rfl rfl ?_
  refine W.nil ?_
  refine E.thenN ?_
  refine WC.region ?_
  refine W.any (.assign rfl) rfl rfl rfl ?_
  refine W.nil ?_
  refine E.thenN ?_
  refine WC.seq ?_
  refine WC.seq ?_
  refine WC.region ?_
  refine W.any (.move rfl) rfl rfl rfl ?_
  refine W.any (.geq rfl rfl) rfl rfl rfl ?_
  refine W.nil ?_
  refine E.thenN ?_
  refine WC.condB rfl (fun _ => ?_) (fun h => absurd h (by simp; omega))
  refine WC.seq ?_
  refine WC.region ?_
  refine W.any (.move rfl) rfl rfl rfl ?_
  refine W.any (.shrE (y / 4294967296) (16) (y / 281474976710656) rfl rfl rfl rfl (by decide) (by omega)) rfl rfl rfl ?_
  refine W.any (.assign rfl) rfl rfl rfl ?_
  refine W.nil ?_
  refine E.thenN ?_
  refine WC.region ?_
  refine W.any (.move rfl) rfl rfl rfl ?_
  refine W.any (.add rfl rfl (by omega)) rfl rfl rfl ?_
  refine W.any (.assign rfl) rfl rfl rfl ?_
  refine W.nil ?_
  refine E.thenN ?_
  refine WC.seq ?_
  refine WC.seq ?_
  refine WC.region ?_
  refine W.any (.move rfl) rfl rfl rfl ?_
  refine W.any (.geq rfl rfl) rfl rfl rfl ?_
  refine W.nil ?_
  refine E.thenN ?_
  refine WC.condB rfl (fun _ => ?_) (fun h => absurd h (by simp; omega))
  refine WC.seq ?_
  refine WC.region ?_
  refine W.any (.move rfl) rfl rfl rfl ?_
  refine W.any (.shrE (y / 281474976710656) (8) (y / 72057594037927936) rfl rfl rfl rfl (by decide) (by omega)) rfl rfl rfl ?_
  refine W.any (.assign rfl) rfl rfl rfl ?_
  refine W.nil ?_
  refine E.thenN ?_
  refine WC.region ?_
  refine W.any (.move rfl) rfl rfl rfl ?_
  refine W.any (.add rfl rfl (by omega)) rfl rfl rfl ?_
  refine W.any (.assign rfl) rfl rfl rfl ?_
  refine W.nil ?_
  refine E.thenN ?_
  refine WC.seq ?_
  refine WC.region ?_
  refine W.any (.move rfl) rfl rfl rfl ?_
  refine W.any (.move rfl) rfl rfl rfl ?_
  refine W.rd (.toU8 (y / 72057594037927936) (isS Try.underlying29) Try.underlying5 rfl rfl) rfl rfl rfl ?_
  refine W.any (.idxStr (y / 72057594037927936) (if y / 72057594037927936 < 32 then 5 else 6) Try.underlying9 rfl rfl (by rw [BitVec.toNat_ofNat, Nat.mod_eq_of_lt (by omega)]) (len8 (y / 72057594037927936) (by omega) (by omega))) rfl rfl rfl ?_
  refine W.rd (.idI (isS Try.underlying5) Try.underlying3 rfl (IntWalk.i64_in _ (by split <;> decide))) rfl rfl rfl ?_
  refine W.any (.add rfl rfl (by split <;> decide)) rfl rfl rfl ?_
  refine W.any (.assign rfl) rfl rfl rfl ?_
  refine W.nil ?_
  refine E.thenN ?_
  refine WC.ret ?_
  refine E.ret1 rfl rfl ?_
  exact ⟨by congr 2; split <;> split <;> simp_all <;> omega, L0⟩

theorem lz64_ok (y : Nat) (h1 : 1152921504606846976 ≤ y) (h2 : y < 4611686018427387904) (w : World) : Calls Try.prog 181 #[.int .u64 ((y : Nat) : Int)] w fun e w' => e = .returned (.int .i64 (if y < 2305843009213693952 then 3 else 2)) ∧ Le w w' := by
  refine enter Try.func181 rfl rfl ?_
  have L0 := Le.refl w
  refine WC.seq ?_
  refine WC.region ?_
  refine W.any (.assign rfl) rfl rfl rfl ?_
  refine W.nil ?_
  refine E.thenN ?_
  refine WC.seq ?_
  refine WC.region ?_
  refine W.any (.move rfl) rfl rfl rfl ?_
  refine W.ef rfl rfl rfl ?_
  refine Ef.call go179 rfl rfl (len64_ok y h1 h2 w) ?_
  rintro _ w1_1 ⟨rfl, h1_1⟩
  refine ⟨_, rfl, ?_⟩
  have L1_1 := L0.trans h1_1
  refine W.any (.sub rfl rfl (by split <;> omega)) rfl rfl rfl ?_
  refine W.any (.assign rfl) rfl rfl rfl ?_
  refine W.nil ?_
  refine E.thenN ?_
  refine WC.ret ?_
  refine E.ret1 rfl rfl ?_
  exact ⟨by congr 2; split <;> rfl, L1_1⟩

theorem div64_ok2 (h l y : Nat) (h1 : 2305843009213693952 ≤ y) (h2 : y < 4611686018427387904) (hh : h < y) (hl : l < 18446744073709551616) (w : World) : Calls Try.prog 158 #[.int .u64 ((h : Nat) : Int), .int .u64 ((l : Nat) : Int), .int .u64 ((y : Nat) : Int)] w fun e w' => ∃ qq : Int, e = .returned (.tuple #[.int .u64 qq, .int .u64 (((h * 18446744073709551616 + l) % y : Nat) : Int)]) ∧ Le w w' := by
  obtain ⟨Y, hYd⟩ : ∃ Y, Y = y * 4 := ⟨_, rfl⟩
  obtain ⟨a, ha⟩ : ∃ a, a = Y / 4294967296 := ⟨_, rfl⟩
  obtain ⟨b, hb0⟩ : ∃ b, b = Y % 4294967296 := ⟨_, rfl⟩
  obtain ⟨U, hUd⟩ : ∃ U, U = h * 4 + l / 4611686018427387904 := ⟨_, rfl⟩
  obtain ⟨v, hv⟩ : ∃ v, v = l * 4 % 18446744073709551616 := ⟨_, rfl⟩
  obtain ⟨e1, he1⟩ : ∃ e1, e1 = v / 4294967296 := ⟨_, rfl⟩
  obtain ⟨e0, he0⟩ : ∃ e0, e0 = v % 4294967296 := ⟨_, rfl⟩
  have hY : Y = a * 4294967296 + b := by omega
  have hYlo : 9223372036854775808 ≤ Y := by omega
  have hYhi : Y < 18446744073709551616 := by omega
  have ha1 : 2147483648 ≤ a := by omega
  have ha2 : a < 4294967296 := by omega
  have hb1 : b < 4294967296 := by omega
  have hv2 : v < 18446744073709551616 := by omega
  have he12 : e1 < 4294967296 := by omega
  have he02 : e0 < 4294967296 := by omega
  have hU : U < Y := by omega
  obtain ⟨R, hR⟩ : ∃ R, R = (U * 4294967296 + e1) % Y := ⟨_, rfl⟩
  obtain ⟨Q1, hQ1⟩ : ∃ Q1, Q1 = (U * 4294967296 + e1) / Y := ⟨_, rfl⟩
  obtain ⟨Q2, hQ2⟩ : ∃ Q2, Q2 = (R * 4294967296 + e0) / Y := ⟨_, rfl⟩
  have hRY : R < Y := by rw [hR]; exact Nat.mod_lt _ (by omega)
  have hfin : (R * 4294967296 + e0) % Y / 2 ^ 2 = (h * 18446744073709551616 + l) % y := div_fin2 h l y Y U v e1 e0 R hYd hUd hv he1 he0 hR (by omega)
  have hlz : ∀ w, Calls Try.prog 181 #[.int .u64 ((y : Nat) : Int)] w (fun e w' => e = .returned (.int .i64 2) ∧ Le w w') := fun w => by
    have := lz64_ok y (by omega) (by omega) w
    rw [if_neg (by omega)] at this
    exact this
  refine enter Try.func158 rfl rfl ?_
  have L0 := Le.refl w
  refine WC.seq ?_
  refine WC.region ?_
  refine W.any (.assign rfl) rfl rfl rfl ?_
  refine W.any (.assign rfl) rfl rfl rfl ?_
  refine W.nil ?_
  refine E.thenN ?_
  refine WC.seq ?_
  refine WC.seq ?_
  refine WC.region ?_
  refine W.any (.move rfl) rfl rfl rfl ?_
  refine W.any (.eql rfl rfl) rfl rfl rfl ?_
  refine W.nil ?_
  refine E.thenN ?_
  refine WC.condB rfl (fun h => absurd h (by simp; omega)) (fun _ => ?_)
  refine WC.skip ?_
  refine E.thenN ?_
  refine WC.seq ?_
  refine WC.seq ?_
  refine WC.region ?_
  refine W.any (.move rfl) rfl rfl rfl ?_
  refine W.any (.move rfl) rfl rfl rfl ?_
  refine W.any (.leq rfl rfl) rfl rfl rfl ?_
  refine W.nil ?_
  refine E.thenN ?_
  refine WC.condB rfl (fun h => absurd h (by simp; omega)) (fun _ => ?_)
  refine WC.skip ?_
  refine E.thenN ?_
  refine WC.seq ?_
  refine WC.seq ?_
  refine WC.region ?_
  refine W.any (.move rfl) rfl rfl rfl ?_
  refine W.any (.eql rfl rfl) rfl rfl rfl ?_
  refine W.nil ?_
  refine E.thenN ?_
  refine WC.cond rfl (fun c2 => ?_) (fun c2 => ?_)
  · have h0 : h = 0 := by omega
    subst h0
    refine WC.seq ?_
    refine WC.draw [0, 1, 2, 3, 4, 5, 6, 7] mixed (by kernel_rfl) ?_
    intro w6 d6
    have L6 := L0.trans d6
    refine G.any rfl rfl (.move rfl) rfl rfl rfl ?_
    refine G.any rfl rfl (.move rfl) rfl rfl rfl ?_
    refine G.any rfl rfl (.quoN (l) (y) (l / y) rfl rfl rfl rfl (by omega) (by omega) (rfl)) rfl rfl rfl ?_
    refine G.any rfl rfl (.move rfl) rfl rfl rfl ?_
    refine G.any rfl rfl (.move rfl) rfl rfl rfl ?_
    refine G.any rfl rfl (.remN (l) (y) (l % y) rfl rfl rfl rfl (by omega) (rfl)) rfl rfl rfl ?_
    refine G.any rfl rfl (.assign rfl) rfl rfl rfl ?_
    refine G.any rfl rfl (.assign rfl) rfl rfl rfl ?_
    refine G.nil ?_
    refine E.thenN ?_
    refine WC.ret ?_
    refine E.thenR ?_
    refine E.ret2 rfl rfl rfl ?_
    exact ⟨_, by rw [Nat.zero_mul, Nat.zero_add], L6⟩
  · refine WC.skip ?_
    refine E.thenN ?_
    refine WC.seq ?_
    refine WC.region ?_
    refine W.any (.move rfl) rfl rfl rfl ?_
    refine W.ef rfl rfl rfl ?_
    refine Ef.call go181 rfl rfl (hlz w) ?_
    rintro _ w7_1 ⟨rfl, h7_1⟩
    refine ⟨_, rfl, ?_⟩
    have L7_1 := L0.trans h7_1
    refine W.rd (.idI (isS Try.underlying3) Try.underlying213 rfl (IntWalk.u64_in _ (by decide))) rfl rfl rfl ?_
    refine W.any (.assign rfl) rfl rfl rfl ?_
    refine W.nil ?_
    refine E.thenN ?_
    refine WC.seq ?_
    refine WC.region ?_
    refine W.any (.move rfl) rfl rfl rfl ?_
    refine W.any (.move rfl) rfl rfl rfl ?_
    refine W.any (.shlN (y) (2) (Y) rfl rfl rfl rfl (by decide) (by omega)) rfl rfl rfl ?_
    refine W.any (.assign rfl) rfl rfl rfl ?_
    refine W.nil ?_
    refine E.thenN ?_
    refine WC.seq ?_
    refine WC.region ?_
    refine W.any (.move rfl) rfl rfl rfl ?_
    refine W.any (.shrE (Y) (32) (a) rfl rfl rfl rfl (by decide) (by omega)) rfl rfl rfl ?_
    refine W.any (.assign rfl) rfl rfl rfl ?_
    refine W.nil ?_
    refine E.thenN ?_
    refine WC.seq ?_
    refine WC.region ?_
    refine W.any (.move rfl) rfl rfl rfl ?_
    refine W.any (.andE (Y) (4294967295) (b) rfl rfl rfl rfl (by omega) (by omega) ((mask32 _).trans hb0.symm)) rfl rfl rfl ?_
    refine W.any (.assign rfl) rfl rfl rfl ?_
    refine W.nil ?_
    refine E.thenN ?_
    refine WC.seq ?_
    refine WC.region ?_
    refine W.any (.move rfl) rfl rfl rfl ?_
    refine W.any (.move rfl) rfl rfl rfl ?_
    refine W.any (.shlN (h) (2) (h * 4) rfl rfl rfl rfl (by decide) (by omega)) rfl rfl rfl ?_
    refine W.any (.move rfl) rfl rfl rfl ?_
    refine W.any (.move rfl) rfl rfl rfl ?_
    refine W.any (.subN (64) (2) (62) rfl rfl rfl rfl (by decide) (by decide)) rfl rfl rfl ?_
    refine W.any (.shrE (l) (62) (l / 4611686018427387904) rfl rfl rfl rfl (by decide) (rfl)) rfl rfl rfl ?_
    refine W.any (.orE (h * 4) (l / 4611686018427387904) (U) rfl rfl rfl rfl (by omega) (by omega) (by rw [hUd, Nat.mul_comm h, show (4 : Nat) = 2 ^ 2 by decide]; exact (Nat.two_pow_add_eq_or_of_lt (by omega) _).symm)) rfl rfl rfl ?_
    refine W.any (.assign rfl) rfl rfl rfl ?_
    refine W.nil ?_
    refine E.thenN ?_
    refine WC.seq ?_
    refine WC.region ?_
    refine W.any (.move rfl) rfl rfl rfl ?_
    refine W.any (.move rfl) rfl rfl rfl ?_
    refine W.any (.shlN (l) (2) (v) rfl rfl rfl rfl (by decide) (hv.symm)) rfl rfl rfl ?_
    refine W.any (.assign rfl) rfl rfl rfl ?_
    refine W.nil ?_
    refine E.thenN ?_
    refine WC.seq ?_
    refine WC.region ?_
    refine W.any (.move rfl) rfl rfl rfl ?_
    refine W.any (.shrE (v) (32) (e1) rfl rfl rfl rfl (by decide) (by omega)) rfl rfl rfl ?_
    refine W.any (.assign rfl) rfl rfl rfl ?_
    refine W.nil ?_
    refine E.thenN ?_
    refine WC.seq ?_
    refine WC.region ?_
    refine W.any (.move rfl) rfl rfl rfl ?_
    refine W.any (.andE (v) (4294967295) (e0) rfl rfl rfl rfl (by omega) (by omega) ((mask32 _).trans he0.symm)) rfl rfl rfl ?_
    refine W.any (.assign rfl) rfl rfl rfl ?_
    refine W.nil ?_
    refine E.thenN ?_
    refine WC.seq ?_
    refine WC.region ?_
    refine W.any (.move rfl) rfl rfl rfl ?_
    refine W.any (.move rfl) rfl rfl rfl ?_
    refine W.any (.quoN (U) (a) (U / a) rfl rfl rfl rfl (by omega) (by omega) (rfl)) rfl rfl rfl ?_
    refine W.any (.assign rfl) rfl rfl rfl ?_
    refine W.nil ?_
    refine E.thenN ?_
    refine WC.seq ?_
    refine WC.region ?_
    refine W.any (.move rfl) rfl rfl rfl ?_
    refine W.any (.move rfl) rfl rfl rfl ?_
    refine W.any (.move rfl) rfl rfl rfl ?_
    refine W.any (.mulN (U / a) (a) (U / a * a) rfl rfl rfl rfl (Nat.mod_eq_of_lt (Nat.lt_of_le_of_lt (Nat.div_mul_le_self _ _) (by omega)))) rfl rfl rfl ?_
    refine W.any (.subN (U) (U / a * a) (U % a) rfl rfl rfl rfl (Nat.le_trans (Nat.div_mul_le_self _ _) (by omega)) (sub_div U a (by omega))) rfl rfl rfl ?_
    refine W.any (.assign rfl) rfl rfl rfl ?_
    refine W.nil ?_
    refine E.thenN ?_
    refine WC.cut (ι := Unit) (fun () => [(2, .int .u64 ((Y : Nat) : Int)), (8, .int .u64 (2 : Int)), (9, .int .u64 ((a : Nat) : Int)), (10, .int .u64 ((b : Nat) : Int)), (11, .int .u64 ((U : Nat) : Int)), (13, .int .u64 ((e1 : Nat) : Int)), (14, .int .u64 ((e0 : Nat) : Int)), (15, .int .u64 ((Q1 : Nat) : Int))]) (fun () wc15 => Le w wc15) ?_ ?_
    · refine WC.block ?_
      refine WC.loop (ι := Nat × Nat) (fun ⟨qh, rh⟩ => [(2, .int .u64 ((Y : Nat) : Int)), (8, .int .u64 (2 : Int)), (9, .int .u64 ((a : Nat) : Int)), (10, .int .u64 ((b : Nat) : Int)), (11, .int .u64 ((U : Nat) : Int)), (13, .int .u64 ((e1 : Nat) : Int)), (14, .int .u64 ((e0 : Nat) : Int)), (15, .int .u64 ((qh : Nat) : Int)), (16, .int .u64 ((rh : Nat) : Int))]) (fun ⟨qh, rh⟩ wl => Le w wl ∧ qh * a + rh = U ∧ Q1 ≤ qh ∧ rh < 4294967296 ∧ qh ≤ 4294967297) (fun ⟨qh, rh⟩ => qh) (U / a, U % a) ?_ ?_ ?_
      · exact .cons rfl (.cons rfl (.cons rfl (.cons rfl (.cons rfl (.cons rfl (.cons rfl (.cons rfl (.cons rfl (.nil _)))))))))
      · exact ⟨L7_1, by rw [Nat.mul_comm]; exact Nat.div_add_mod _ _, by rw [hQ1]; exact dig_start hY (by omega) hU (by omega), Nat.lt_of_lt_of_le (Nat.mod_lt _ (by omega)) (by omega), dig_first hY (by omega) (by omega) hU⟩
      · rintro ⟨qh, rh⟩ wl ⟨Ll, hi, hq, hr, hq2⟩
        refine WC.seq ?_
        refine WC.seq ?_
        refine WC.region ?_
        refine W.any (.move rfl) rfl rfl rfl ?_
        refine W.any (.geq rfl rfl) rfl rfl rfl ?_
        by_cases hb : 4294967296 ≤ qh
        · refine W.any (.move rfl) rfl rfl rfl ?_
          refine W.skip rfl rfl rfl (decide_eq_true (by omega)) rfl rfl ?_
          refine W.skip rfl rfl rfl (decide_eq_true (by omega)) rfl rfl ?_
          refine W.skip rfl rfl rfl (decide_eq_true (by omega)) rfl rfl ?_
          refine W.skip rfl rfl rfl (decide_eq_true (by omega)) rfl rfl ?_
          refine W.skip rfl rfl rfl (decide_eq_true (by omega)) rfl rfl ?_
          refine W.skip rfl rfl rfl (decide_eq_true (by omega)) rfl rfl ?_
          refine W.skip rfl rfl rfl (decide_eq_true (by omega)) rfl rfl ?_
          refine W.skip rfl rfl rfl (decide_eq_true (by omega)) rfl rfl ?_
          refine W.any (.pickT rfl (decide_eq_true (by omega)) rfl) rfl rfl rfl ?_
          have hgt : Q1 < qh := by rw [hQ1]; exact dig_gt hY hU (by omega) hi (by omega)
          have hd : qh * a = (qh - 1) * a + a := by rw [← Nat.succ_mul]; congr 1; omega
          have hinv : (qh - 1) * a + (rh + a) = U := by omega
          refine W.nil ?_
          refine E.thenN ?_
          refine WC.condT rfl ?_
          refine WC.skip ?_
          refine E.thenN ?_
          refine WC.block ?_
          refine WC.seq ?_
          refine WC.region ?_
          refine W.any (.move rfl) rfl rfl rfl ?_
          refine W.any (.subN (qh) (1) (qh - 1) rfl rfl rfl rfl (by omega) (by omega)) rfl rfl rfl ?_
          refine W.any (.assign rfl) rfl rfl rfl ?_
          refine W.nil ?_
          refine E.thenN ?_
          refine WC.seq ?_
          refine WC.region ?_
          refine W.any (.move rfl) rfl rfl rfl ?_
          refine W.any (.move rfl) rfl rfl rfl ?_
          refine W.any (.addN (rh) (a) (rh + a) rfl rfl rfl rfl (by omega)) rfl rfl rfl ?_
          refine W.any (.assign rfl) rfl rfl rfl ?_
          refine W.nil ?_
          refine E.thenN ?_
          refine WC.seq ?_
          refine WC.region ?_
          refine W.any (.move rfl) rfl rfl rfl ?_
          refine W.any (.geq rfl rfl) rfl rfl rfl ?_
          refine W.nil ?_
          refine E.thenN ?_
          refine WC.cond rfl (fun c4 => ?_) (fun c4 => ?_)
          · have hqe : qh - 1 = Q1 := Nat.le_antisymm (by rw [hQ1]; exact dig_brk hY (by omega) hb1 hinv (by omega) (by omega)) (by omega)
            refine WC.exit ?_
            refine E.blkX rfl ?_
            refine E.thenX ?_
            refine E.blkH ?_
            refine E.meet () (.cons rfl (.cons rfl (.cons rfl (.cons rfl (.cons rfl (.cons rfl (.cons rfl (.cons' rfl (int_eq (by rw [hqe])) (.nil _))))))))) ?_
            exact Ll
          · refine WC.skip ?_
            refine E.blkN ?_
            refine E.again (qh - 1, rh + a) (.cons rfl (.cons rfl (.cons rfl (.cons rfl (.cons rfl (.cons rfl (.cons rfl (.cons rfl (.cons rfl (.nil _)))))))))) ?_ ?_
            · exact ⟨Ll, hinv, by omega, by omega, by omega⟩
            · first | omega | (simp only []; omega)
        · refine W.any (.move rfl) rfl rfl rfl ?_
          refine W.rdg (Any.rd (.move rfl) _) rfl rfl rfl (decide_eq_false (by omega)) rfl rfl ?_
          refine W.rdg (Any.rd (.move rfl) _) rfl rfl rfl (decide_eq_false (by omega)) rfl rfl ?_
          have hqb : qh * b < 18446744073709551616 := Nat.lt_of_le_of_lt (Nat.mul_le_mul (show qh ≤ 4294967295 by omega) (show b ≤ 4294967295 by omega)) (by decide)
          refine W.rdg (Any.rd (.mulN (qh) (b) (qh * b) rfl rfl rfl rfl (Nat.mod_eq_of_lt hqb)) _) rfl rfl rfl (decide_eq_false (by omega)) rfl rfl ?_
          refine W.rdg (Any.rd (.move rfl) _) rfl rfl rfl (decide_eq_false (by omega)) rfl rfl ?_
          refine W.rdg (Any.rd (.mulN (4294967296) (rh) (4294967296 * rh) rfl rfl rfl rfl (by omega)) _) rfl rfl rfl (decide_eq_false (by omega)) rfl rfl ?_
          refine W.rdg (Any.rd (.move rfl) _) rfl rfl rfl (decide_eq_false (by omega)) rfl rfl ?_
          refine W.rdg (Any.rd (.addN (4294967296 * rh) (e1) (4294967296 * rh + e1) rfl rfl rfl rfl (by omega)) _) rfl rfl rfl (decide_eq_false (by omega)) rfl rfl ?_
          refine W.rdg (Any.rd (.gtr rfl rfl) _) rfl rfl rfl (decide_eq_false (by omega)) rfl rfl ?_
          refine W.any (.pickF rfl (decide_eq_false (by omega)) rfl) rfl rfl rfl ?_
          refine W.nil ?_
          refine E.thenN ?_
          refine WC.cond rfl (fun c3 => ?_) (fun c3 => ?_)
          · have hgt : Q1 < qh := by rw [hQ1]; exact dig_gt hY hU (by omega) hi (by omega)
            have hd : qh * a = (qh - 1) * a + a := by rw [← Nat.succ_mul]; congr 1; omega
            have hinv : (qh - 1) * a + (rh + a) = U := by omega
            refine WC.skip ?_
            refine E.thenN ?_
            refine WC.block ?_
            refine WC.seq ?_
            refine WC.region ?_
            refine W.any (.move rfl) rfl rfl rfl ?_
            refine W.any (.subN (qh) (1) (qh - 1) rfl rfl rfl rfl (by omega) (by omega)) rfl rfl rfl ?_
            refine W.any (.assign rfl) rfl rfl rfl ?_
            refine W.nil ?_
            refine E.thenN ?_
            refine WC.seq ?_
            refine WC.region ?_
            refine W.any (.move rfl) rfl rfl rfl ?_
            refine W.any (.move rfl) rfl rfl rfl ?_
            refine W.any (.addN (rh) (a) (rh + a) rfl rfl rfl rfl (by omega)) rfl rfl rfl ?_
            refine W.any (.assign rfl) rfl rfl rfl ?_
            refine W.nil ?_
            refine E.thenN ?_
            refine WC.seq ?_
            refine WC.region ?_
            refine W.any (.move rfl) rfl rfl rfl ?_
            refine W.any (.geq rfl rfl) rfl rfl rfl ?_
            refine W.nil ?_
            refine E.thenN ?_
            refine WC.cond rfl (fun c4 => ?_) (fun c4 => ?_)
            · have hqe : qh - 1 = Q1 := Nat.le_antisymm (by rw [hQ1]; exact dig_brk hY (by omega) hb1 hinv (by omega) (by omega)) (by omega)
              refine WC.exit ?_
              refine E.blkX rfl ?_
              refine E.thenX ?_
              refine E.blkH ?_
              refine E.meet () (.cons rfl (.cons rfl (.cons rfl (.cons rfl (.cons rfl (.cons rfl (.cons rfl (.cons' rfl (int_eq (by rw [hqe])) (.nil _))))))))) ?_
              exact Ll
            · refine WC.skip ?_
              refine E.blkN ?_
              refine E.again (qh - 1, rh + a) (.cons rfl (.cons rfl (.cons rfl (.cons rfl (.cons rfl (.cons rfl (.cons rfl (.cons rfl (.cons rfl (.nil _)))))))))) ?_ ?_
              · exact ⟨Ll, hinv, by omega, by omega, by omega⟩
              · first | omega | (simp only []; omega)
          · have hqe : qh = Q1 := Nat.le_antisymm (by rw [hQ1]; exact dig_le hY (by omega) hi (by omega)) hq
            refine WC.exit ?_
            refine E.thenX ?_
            refine E.thenX ?_
            refine E.blkH ?_
            refine E.meet () (.cons rfl (.cons rfl (.cons rfl (.cons rfl (.cons rfl (.cons rfl (.cons rfl (.cons' rfl (int_eq (by rw [hqe])) (.nil _))))))))) ?_
            exact Ll
    · rintro ⟨⟩ wc15 Lc15
      refine WC.seq ?_
      refine WC.region ?_
      refine W.any (.move rfl) rfl rfl rfl ?_
      refine W.any (.mulN (U) (4294967296) (U * 4294967296 % 18446744073709551616) rfl rfl rfl rfl (rfl)) rfl rfl rfl ?_
      refine W.any (.move rfl) rfl rfl rfl ?_
      refine W.any (.addN (U * 4294967296 % 18446744073709551616) (e1) ((U * 4294967296 + e1) % 18446744073709551616) rfl rfl rfl rfl (by rw [Nat.mod_add_mod])) rfl rfl rfl ?_
      refine W.any (.move rfl) rfl rfl rfl ?_
      refine W.any (.move rfl) rfl rfl rfl ?_
      refine W.any (.mulN (Q1) (Y) (Q1 * Y % 18446744073709551616) rfl rfl rfl rfl (rfl)) rfl rfl rfl ?_
      refine W.any (.subN ((U * 4294967296 + e1) % 18446744073709551616) (Q1 * Y % 18446744073709551616) (R) rfl rfl rfl rfl (Nat.le_of_lt (Nat.mod_lt _ (by decide))) ((dig_rest Y _ _ hQ1 (by omega) (by omega)).trans hR.symm)) rfl rfl rfl ?_
      refine W.any (.assign rfl) rfl rfl rfl ?_
      refine W.nil ?_
      refine E.thenN ?_
      refine WC.seq ?_
      refine WC.region ?_
      refine W.any (.move rfl) rfl rfl rfl ?_
      refine W.any (.move rfl) rfl rfl rfl ?_
      refine W.any (.quoN (R) (a) (R / a) rfl rfl rfl rfl (by omega) (by omega) (rfl)) rfl rfl rfl ?_
      refine W.any (.assign rfl) rfl rfl rfl ?_
      refine W.nil ?_
      refine E.thenN ?_
      refine WC.seq ?_
      refine WC.region ?_
      refine W.any (.move rfl) rfl rfl rfl ?_
      refine W.any (.move rfl) rfl rfl rfl ?_
      refine W.any (.move rfl) rfl rfl rfl ?_
      refine W.any (.mulN (R / a) (a) (R / a * a) rfl rfl rfl rfl (Nat.mod_eq_of_lt (Nat.lt_of_le_of_lt (Nat.div_mul_le_self _ _) (by omega)))) rfl rfl rfl ?_
      refine W.any (.subN (R) (R / a * a) (R % a) rfl rfl rfl rfl (Nat.le_trans (Nat.div_mul_le_self _ _) (by omega)) (sub_div R a (by omega))) rfl rfl rfl ?_
      refine W.any (.assign rfl) rfl rfl rfl ?_
      refine W.nil ?_
      refine E.thenN ?_
      refine WC.cut (ι := Unit) (fun () => [(2, .int .u64 ((Y : Nat) : Int)), (8, .int .u64 (2 : Int)), (9, .int .u64 ((a : Nat) : Int)), (10, .int .u64 ((b : Nat) : Int)), (14, .int .u64 ((e0 : Nat) : Int)), (17, .int .u64 ((R : Nat) : Int)), (15, .int .u64 ((Q1 : Nat) : Int)), (18, .int .u64 ((Q2 : Nat) : Int))]) (fun () wc18 => Le w wc18) ?_ ?_
      · refine WC.block ?_
        refine WC.loop (ι := Nat × Nat) (fun ⟨qh, rh⟩ => [(2, .int .u64 ((Y : Nat) : Int)), (8, .int .u64 (2 : Int)), (9, .int .u64 ((a : Nat) : Int)), (10, .int .u64 ((b : Nat) : Int)), (14, .int .u64 ((e0 : Nat) : Int)), (17, .int .u64 ((R : Nat) : Int)), (15, .int .u64 ((Q1 : Nat) : Int)), (18, .int .u64 ((qh : Nat) : Int)), (16, .int .u64 ((rh : Nat) : Int))]) (fun ⟨qh, rh⟩ wl => Le w wl ∧ qh * a + rh = R ∧ Q2 ≤ qh ∧ rh < 4294967296 ∧ qh ≤ 4294967297) (fun ⟨qh, rh⟩ => qh) (R / a, R % a) ?_ ?_ ?_
        · exact .cons rfl (.cons rfl (.cons rfl (.cons rfl (.cons rfl (.cons rfl (.cons rfl (.cons rfl (.cons rfl (.nil _)))))))))
        · exact ⟨Lc15, by rw [Nat.mul_comm]; exact Nat.div_add_mod _ _, by rw [hQ2]; exact dig_start hY (by omega) hRY (by omega), Nat.lt_of_lt_of_le (Nat.mod_lt _ (by omega)) (by omega), dig_first hY (by omega) (by omega) hRY⟩
        · rintro ⟨qh, rh⟩ wl ⟨Ll, hi, hq, hr, hq2⟩
          refine WC.seq ?_
          refine WC.seq ?_
          refine WC.region ?_
          refine W.any (.move rfl) rfl rfl rfl ?_
          refine W.any (.geq rfl rfl) rfl rfl rfl ?_
          by_cases hb : 4294967296 ≤ qh
          · refine W.any (.move rfl) rfl rfl rfl ?_
            refine W.skip rfl rfl rfl (decide_eq_true (by omega)) rfl rfl ?_
            refine W.skip rfl rfl rfl (decide_eq_true (by omega)) rfl rfl ?_
            refine W.skip rfl rfl rfl (decide_eq_true (by omega)) rfl rfl ?_
            refine W.skip rfl rfl rfl (decide_eq_true (by omega)) rfl rfl ?_
            refine W.skip rfl rfl rfl (decide_eq_true (by omega)) rfl rfl ?_
            refine W.skip rfl rfl rfl (decide_eq_true (by omega)) rfl rfl ?_
            refine W.skip rfl rfl rfl (decide_eq_true (by omega)) rfl rfl ?_
            refine W.skip rfl rfl rfl (decide_eq_true (by omega)) rfl rfl ?_
            refine W.any (.pickT rfl (decide_eq_true (by omega)) rfl) rfl rfl rfl ?_
            have hgt : Q2 < qh := by rw [hQ2]; exact dig_gt hY hRY (by omega) hi (by omega)
            have hd : qh * a = (qh - 1) * a + a := by rw [← Nat.succ_mul]; congr 1; omega
            have hinv : (qh - 1) * a + (rh + a) = R := by omega
            refine W.nil ?_
            refine E.thenN ?_
            refine WC.condT rfl ?_
            refine WC.skip ?_
            refine E.thenN ?_
            refine WC.block ?_
            refine WC.seq ?_
            refine WC.region ?_
            refine W.any (.move rfl) rfl rfl rfl ?_
            refine W.any (.subN (qh) (1) (qh - 1) rfl rfl rfl rfl (by omega) (by omega)) rfl rfl rfl ?_
            refine W.any (.assign rfl) rfl rfl rfl ?_
            refine W.nil ?_
            refine E.thenN ?_
            refine WC.seq ?_
            refine WC.region ?_
            refine W.any (.move rfl) rfl rfl rfl ?_
            refine W.any (.move rfl) rfl rfl rfl ?_
            refine W.any (.addN (rh) (a) (rh + a) rfl rfl rfl rfl (by omega)) rfl rfl rfl ?_
            refine W.any (.assign rfl) rfl rfl rfl ?_
            refine W.nil ?_
            refine E.thenN ?_
            refine WC.seq ?_
            refine WC.region ?_
            refine W.any (.move rfl) rfl rfl rfl ?_
            refine W.any (.geq rfl rfl) rfl rfl rfl ?_
            refine W.nil ?_
            refine E.thenN ?_
            refine WC.cond rfl (fun c6 => ?_) (fun c6 => ?_)
            · have hqe : qh - 1 = Q2 := Nat.le_antisymm (by rw [hQ2]; exact dig_brk hY (by omega) hb1 hinv (by omega) (by omega)) (by omega)
              refine WC.exit ?_
              refine E.blkX rfl ?_
              refine E.thenX ?_
              refine E.blkH ?_
              refine E.meet () (.cons rfl (.cons rfl (.cons rfl (.cons rfl (.cons rfl (.cons rfl (.cons rfl (.cons' rfl (int_eq (by rw [hqe])) (.nil _))))))))) ?_
              exact Ll
            · refine WC.skip ?_
              refine E.blkN ?_
              refine E.again (qh - 1, rh + a) (.cons rfl (.cons rfl (.cons rfl (.cons rfl (.cons rfl (.cons rfl (.cons rfl (.cons rfl (.cons rfl (.nil _)))))))))) ?_ ?_
              · exact ⟨Ll, hinv, by omega, by omega, by omega⟩
              · first | omega | (simp only []; omega)
          · refine W.any (.move rfl) rfl rfl rfl ?_
            refine W.rdg (Any.rd (.move rfl) _) rfl rfl rfl (decide_eq_false (by omega)) rfl rfl ?_
            refine W.rdg (Any.rd (.move rfl) _) rfl rfl rfl (decide_eq_false (by omega)) rfl rfl ?_
            have hqb : qh * b < 18446744073709551616 := Nat.lt_of_le_of_lt (Nat.mul_le_mul (show qh ≤ 4294967295 by omega) (show b ≤ 4294967295 by omega)) (by decide)
            refine W.rdg (Any.rd (.mulN (qh) (b) (qh * b) rfl rfl rfl rfl (Nat.mod_eq_of_lt hqb)) _) rfl rfl rfl (decide_eq_false (by omega)) rfl rfl ?_
            refine W.rdg (Any.rd (.move rfl) _) rfl rfl rfl (decide_eq_false (by omega)) rfl rfl ?_
            refine W.rdg (Any.rd (.mulN (4294967296) (rh) (4294967296 * rh) rfl rfl rfl rfl (by omega)) _) rfl rfl rfl (decide_eq_false (by omega)) rfl rfl ?_
            refine W.rdg (Any.rd (.move rfl) _) rfl rfl rfl (decide_eq_false (by omega)) rfl rfl ?_
            refine W.rdg (Any.rd (.addN (4294967296 * rh) (e0) (4294967296 * rh + e0) rfl rfl rfl rfl (by omega)) _) rfl rfl rfl (decide_eq_false (by omega)) rfl rfl ?_
            refine W.rdg (Any.rd (.gtr rfl rfl) _) rfl rfl rfl (decide_eq_false (by omega)) rfl rfl ?_
            refine W.any (.pickF rfl (decide_eq_false (by omega)) rfl) rfl rfl rfl ?_
            refine W.nil ?_
            refine E.thenN ?_
            refine WC.cond rfl (fun c5 => ?_) (fun c5 => ?_)
            · have hgt : Q2 < qh := by rw [hQ2]; exact dig_gt hY hRY (by omega) hi (by omega)
              have hd : qh * a = (qh - 1) * a + a := by rw [← Nat.succ_mul]; congr 1; omega
              have hinv : (qh - 1) * a + (rh + a) = R := by omega
              refine WC.skip ?_
              refine E.thenN ?_
              refine WC.block ?_
              refine WC.seq ?_
              refine WC.region ?_
              refine W.any (.move rfl) rfl rfl rfl ?_
              refine W.any (.subN (qh) (1) (qh - 1) rfl rfl rfl rfl (by omega) (by omega)) rfl rfl rfl ?_
              refine W.any (.assign rfl) rfl rfl rfl ?_
              refine W.nil ?_
              refine E.thenN ?_
              refine WC.seq ?_
              refine WC.region ?_
              refine W.any (.move rfl) rfl rfl rfl ?_
              refine W.any (.move rfl) rfl rfl rfl ?_
              refine W.any (.addN (rh) (a) (rh + a) rfl rfl rfl rfl (by omega)) rfl rfl rfl ?_
              refine W.any (.assign rfl) rfl rfl rfl ?_
              refine W.nil ?_
              refine E.thenN ?_
              refine WC.seq ?_
              refine WC.region ?_
              refine W.any (.move rfl) rfl rfl rfl ?_
              refine W.any (.geq rfl rfl) rfl rfl rfl ?_
              refine W.nil ?_
              refine E.thenN ?_
              refine WC.cond rfl (fun c6 => ?_) (fun c6 => ?_)
              · have hqe : qh - 1 = Q2 := Nat.le_antisymm (by rw [hQ2]; exact dig_brk hY (by omega) hb1 hinv (by omega) (by omega)) (by omega)
                refine WC.exit ?_
                refine E.blkX rfl ?_
                refine E.thenX ?_
                refine E.blkH ?_
                refine E.meet () (.cons rfl (.cons rfl (.cons rfl (.cons rfl (.cons rfl (.cons rfl (.cons rfl (.cons' rfl (int_eq (by rw [hqe])) (.nil _))))))))) ?_
                exact Ll
              · refine WC.skip ?_
                refine E.blkN ?_
                refine E.again (qh - 1, rh + a) (.cons rfl (.cons rfl (.cons rfl (.cons rfl (.cons rfl (.cons rfl (.cons rfl (.cons rfl (.cons rfl (.nil _)))))))))) ?_ ?_
                · exact ⟨Ll, hinv, by omega, by omega, by omega⟩
                · first | omega | (simp only []; omega)
            · have hqe : qh = Q2 := Nat.le_antisymm (by rw [hQ2]; exact dig_le hY (by omega) hi (by omega)) hq
              refine WC.exit ?_
              refine E.thenX ?_
              refine E.thenX ?_
              refine E.blkH ?_
              refine E.meet () (.cons rfl (.cons rfl (.cons rfl (.cons rfl (.cons rfl (.cons rfl (.cons rfl (.cons' rfl (int_eq (by rw [hqe])) (.nil _))))))))) ?_
              exact Ll
      · rintro ⟨⟩ wc18 Lc18
        refine WC.seq ?_
        refine WC.region ?_
        refine W.any (.move rfl) rfl rfl rfl ?_
        refine W.any (.mulN (Q1) (4294967296) (Q1 * 4294967296 % 18446744073709551616) rfl rfl rfl rfl (rfl)) rfl rfl rfl ?_
        refine W.any (.move rfl) rfl rfl rfl ?_
        refine W.any (.addN (Q1 * 4294967296 % 18446744073709551616) (Q2) ((Q1 * 4294967296 % 18446744073709551616 + Q2) % 18446744073709551616) rfl rfl rfl rfl (rfl)) rfl rfl rfl ?_
        refine W.any (.move rfl) rfl rfl rfl ?_
        refine W.any (.mulN (R) (4294967296) (R * 4294967296 % 18446744073709551616) rfl rfl rfl rfl (rfl)) rfl rfl rfl ?_
        refine W.any (.move rfl) rfl rfl rfl ?_
        refine W.any (.addN (R * 4294967296 % 18446744073709551616) (e0) ((R * 4294967296 + e0) % 18446744073709551616) rfl rfl rfl rfl (by rw [Nat.mod_add_mod])) rfl rfl rfl ?_
        refine W.any (.move rfl) rfl rfl rfl ?_
        refine W.any (.move rfl) rfl rfl rfl ?_
        refine W.any (.mulN (Q2) (Y) (Q2 * Y % 18446744073709551616) rfl rfl rfl rfl (rfl)) rfl rfl rfl ?_
        refine W.any (.subN ((R * 4294967296 + e0) % 18446744073709551616) (Q2 * Y % 18446744073709551616) ((R * 4294967296 + e0) % Y) rfl rfl rfl rfl (Nat.le_of_lt (Nat.mod_lt _ (by decide))) (dig_rest Y _ _ hQ2 (by omega) (by omega))) rfl rfl rfl ?_
        refine W.any (.move rfl) rfl rfl rfl ?_
        refine W.any (.shrE ((R * 4294967296 + e0) % Y) (2) ((h * 18446744073709551616 + l) % y) rfl rfl rfl rfl (by decide) (hfin)) rfl rfl rfl ?_
        refine W.any (.assign rfl) rfl rfl rfl ?_
        refine W.any (.assign rfl) rfl rfl rfl ?_
        refine W.nil ?_
        refine E.thenN ?_
        refine WC.ret ?_
        refine E.ret2 rfl rfl rfl ?_
        exact ⟨_, rfl, Lc18⟩

theorem div64_ok3 (h l y : Nat) (h1 : 1152921504606846976 ≤ y) (h2 : y < 2305843009213693952) (hh : h < y) (hl : l < 18446744073709551616) (w : World) : Calls Try.prog 158 #[.int .u64 ((h : Nat) : Int), .int .u64 ((l : Nat) : Int), .int .u64 ((y : Nat) : Int)] w fun e w' => ∃ qq : Int, e = .returned (.tuple #[.int .u64 qq, .int .u64 (((h * 18446744073709551616 + l) % y : Nat) : Int)]) ∧ Le w w' := by
  obtain ⟨Y, hYd⟩ : ∃ Y, Y = y * 8 := ⟨_, rfl⟩
  obtain ⟨a, ha⟩ : ∃ a, a = Y / 4294967296 := ⟨_, rfl⟩
  obtain ⟨b, hb0⟩ : ∃ b, b = Y % 4294967296 := ⟨_, rfl⟩
  obtain ⟨U, hUd⟩ : ∃ U, U = h * 8 + l / 2305843009213693952 := ⟨_, rfl⟩
  obtain ⟨v, hv⟩ : ∃ v, v = l * 8 % 18446744073709551616 := ⟨_, rfl⟩
  obtain ⟨e1, he1⟩ : ∃ e1, e1 = v / 4294967296 := ⟨_, rfl⟩
  obtain ⟨e0, he0⟩ : ∃ e0, e0 = v % 4294967296 := ⟨_, rfl⟩
  have hY : Y = a * 4294967296 + b := by omega
  have hYlo : 9223372036854775808 ≤ Y := by omega
  have hYhi : Y < 18446744073709551616 := by omega
  have ha1 : 2147483648 ≤ a := by omega
  have ha2 : a < 4294967296 := by omega
  have hb1 : b < 4294967296 := by omega
  have hv2 : v < 18446744073709551616 := by omega
  have he12 : e1 < 4294967296 := by omega
  have he02 : e0 < 4294967296 := by omega
  have hU : U < Y := by omega
  obtain ⟨R, hR⟩ : ∃ R, R = (U * 4294967296 + e1) % Y := ⟨_, rfl⟩
  obtain ⟨Q1, hQ1⟩ : ∃ Q1, Q1 = (U * 4294967296 + e1) / Y := ⟨_, rfl⟩
  obtain ⟨Q2, hQ2⟩ : ∃ Q2, Q2 = (R * 4294967296 + e0) / Y := ⟨_, rfl⟩
  have hRY : R < Y := by rw [hR]; exact Nat.mod_lt _ (by omega)
  have hfin : (R * 4294967296 + e0) % Y / 2 ^ 3 = (h * 18446744073709551616 + l) % y := div_fin3 h l y Y U v e1 e0 R hYd hUd hv he1 he0 hR (by omega)
  have hlz : ∀ w, Calls Try.prog 181 #[.int .u64 ((y : Nat) : Int)] w (fun e w' => e = .returned (.int .i64 3) ∧ Le w w') := fun w => by
    have := lz64_ok y (by omega) (by omega) w
    rw [if_pos (by omega)] at this
    exact this
  refine enter Try.func158 rfl rfl ?_
  have L0 := Le.refl w
  refine WC.seq ?_
  refine WC.region ?_
  refine W.any (.assign rfl) rfl rfl rfl ?_
  refine W.any (.assign rfl) rfl rfl rfl ?_
  refine W.nil ?_
  refine E.thenN ?_
  refine WC.seq ?_
  refine WC.seq ?_
  refine WC.region ?_
  refine W.any (.move rfl) rfl rfl rfl ?_
  refine W.any (.eql rfl rfl) rfl rfl rfl ?_
  refine W.nil ?_
  refine E.thenN ?_
  refine WC.condB rfl (fun h => absurd h (by simp; omega)) (fun _ => ?_)
  refine WC.skip ?_
  refine E.thenN ?_
  refine WC.seq ?_
  refine WC.seq ?_
  refine WC.region ?_
  refine W.any (.move rfl) rfl rfl rfl ?_
  refine W.any (.move rfl) rfl rfl rfl ?_
  refine W.any (.leq rfl rfl) rfl rfl rfl ?_
  refine W.nil ?_
  refine E.thenN ?_
  refine WC.condB rfl (fun h => absurd h (by simp; omega)) (fun _ => ?_)
  refine WC.skip ?_
  refine E.thenN ?_
  refine WC.seq ?_
  refine WC.seq ?_
  refine WC.region ?_
  refine W.any (.move rfl) rfl rfl rfl ?_
  refine W.any (.eql rfl rfl) rfl rfl rfl ?_
  refine W.nil ?_
  refine E.thenN ?_
  refine WC.cond rfl (fun c2 => ?_) (fun c2 => ?_)
  · have h0 : h = 0 := by omega
    subst h0
    refine WC.seq ?_
    refine WC.draw [0, 1, 2, 3, 4, 5, 6, 7] mixed (by kernel_rfl) ?_
    intro w6 d6
    have L6 := L0.trans d6
    refine G.any rfl rfl (.move rfl) rfl rfl rfl ?_
    refine G.any rfl rfl (.move rfl) rfl rfl rfl ?_
    refine G.any rfl rfl (.quoN (l) (y) (l / y) rfl rfl rfl rfl (by omega) (by omega) (rfl)) rfl rfl rfl ?_
    refine G.any rfl rfl (.move rfl) rfl rfl rfl ?_
    refine G.any rfl rfl (.move rfl) rfl rfl rfl ?_
    refine G.any rfl rfl (.remN (l) (y) (l % y) rfl rfl rfl rfl (by omega) (rfl)) rfl rfl rfl ?_
    refine G.any rfl rfl (.assign rfl) rfl rfl rfl ?_
    refine G.any rfl rfl (.assign rfl) rfl rfl rfl ?_
    refine G.nil ?_
    refine E.thenN ?_
    refine WC.ret ?_
    refine E.thenR ?_
    refine E.ret2 rfl rfl rfl ?_
    exact ⟨_, by rw [Nat.zero_mul, Nat.zero_add], L6⟩
  · refine WC.skip ?_
    refine E.thenN ?_
    refine WC.seq ?_
    refine WC.region ?_
    refine W.any (.move rfl) rfl rfl rfl ?_
    refine W.ef rfl rfl rfl ?_
    refine Ef.call go181 rfl rfl (hlz w) ?_
    rintro _ w7_1 ⟨rfl, h7_1⟩
    refine ⟨_, rfl, ?_⟩
    have L7_1 := L0.trans h7_1
    refine W.rd (.idI (isS Try.underlying3) Try.underlying213 rfl (IntWalk.u64_in _ (by decide))) rfl rfl rfl ?_
    refine W.any (.assign rfl) rfl rfl rfl ?_
    refine W.nil ?_
    refine E.thenN ?_
    refine WC.seq ?_
    refine WC.region ?_
    refine W.any (.move rfl) rfl rfl rfl ?_
    refine W.any (.move rfl) rfl rfl rfl ?_
    refine W.any (.shlN (y) (3) (Y) rfl rfl rfl rfl (by decide) (by omega)) rfl rfl rfl ?_
    refine W.any (.assign rfl) rfl rfl rfl ?_
    refine W.nil ?_
    refine E.thenN ?_
    refine WC.seq ?_
    refine WC.region ?_
    refine W.any (.move rfl) rfl rfl rfl ?_
    refine W.any (.shrE (Y) (32) (a) rfl rfl rfl rfl (by decide) (by omega)) rfl rfl rfl ?_
    refine W.any (.assign rfl) rfl rfl rfl ?_
    refine W.nil ?_
    refine E.thenN ?_
    refine WC.seq ?_
    refine WC.region ?_
    refine W.any (.move rfl) rfl rfl rfl ?_
    refine W.any (.andE (Y) (4294967295) (b) rfl rfl rfl rfl (by omega) (by omega) ((mask32 _).trans hb0.symm)) rfl rfl rfl ?_
    refine W.any (.assign rfl) rfl rfl rfl ?_
    refine W.nil ?_
    refine E.thenN ?_
    refine WC.seq ?_
    refine WC.region ?_
    refine W.any (.move rfl) rfl rfl rfl ?_
    refine W.any (.move rfl) rfl rfl rfl ?_
    refine W.any (.shlN (h) (3) (h * 8) rfl rfl rfl rfl (by decide) (by omega)) rfl rfl rfl ?_
    refine W.any (.move rfl) rfl rfl rfl ?_
    refine W.any (.move rfl) rfl rfl rfl ?_
    refine W.any (.subN (64) (3) (61) rfl rfl rfl rfl (by decide) (by decide)) rfl rfl rfl ?_
    refine W.any (.shrE (l) (61) (l / 2305843009213693952) rfl rfl rfl rfl (by decide) (rfl)) rfl rfl rfl ?_
    refine W.any (.orE (h * 8) (l / 2305843009213693952) (U) rfl rfl rfl rfl (by omega) (by omega) (by rw [hUd, Nat.mul_comm h, show (8 : Nat) = 2 ^ 3 by decide]; exact (Nat.two_pow_add_eq_or_of_lt (by omega) _).symm)) rfl rfl rfl ?_
    refine W.any (.assign rfl) rfl rfl rfl ?_
    refine W.nil ?_
    refine E.thenN ?_
    refine WC.seq ?_
    refine WC.region ?_
    refine W.any (.move rfl) rfl rfl rfl ?_
    refine W.any (.move rfl) rfl rfl rfl ?_
    refine W.any (.shlN (l) (3) (v) rfl rfl rfl rfl (by decide) (hv.symm)) rfl rfl rfl ?_
    refine W.any (.assign rfl) rfl rfl rfl ?_
    refine W.nil ?_
    refine E.thenN ?_
    refine WC.seq ?_
    refine WC.region ?_
    refine W.any (.move rfl) rfl rfl rfl ?_
    refine W.any (.shrE (v) (32) (e1) rfl rfl rfl rfl (by decide) (by omega)) rfl rfl rfl ?_
    refine W.any (.assign rfl) rfl rfl rfl ?_
    refine W.nil ?_
    refine E.thenN ?_
    refine WC.seq ?_
    refine WC.region ?_
    refine W.any (.move rfl) rfl rfl rfl ?_
    refine W.any (.andE (v) (4294967295) (e0) rfl rfl rfl rfl (by omega) (by omega) ((mask32 _).trans he0.symm)) rfl rfl rfl ?_
    refine W.any (.assign rfl) rfl rfl rfl ?_
    refine W.nil ?_
    refine E.thenN ?_
    refine WC.seq ?_
    refine WC.region ?_
    refine W.any (.move rfl) rfl rfl rfl ?_
    refine W.any (.move rfl) rfl rfl rfl ?_
    refine W.any (.quoN (U) (a) (U / a) rfl rfl rfl rfl (by omega) (by omega) (rfl)) rfl rfl rfl ?_
    refine W.any (.assign rfl) rfl rfl rfl ?_
    refine W.nil ?_
    refine E.thenN ?_
    refine WC.seq ?_
    refine WC.region ?_
    refine W.any (.move rfl) rfl rfl rfl ?_
    refine W.any (.move rfl) rfl rfl rfl ?_
    refine W.any (.move rfl) rfl rfl rfl ?_
    refine W.any (.mulN (U / a) (a) (U / a * a) rfl rfl rfl rfl (Nat.mod_eq_of_lt (Nat.lt_of_le_of_lt (Nat.div_mul_le_self _ _) (by omega)))) rfl rfl rfl ?_
    refine W.any (.subN (U) (U / a * a) (U % a) rfl rfl rfl rfl (Nat.le_trans (Nat.div_mul_le_self _ _) (by omega)) (sub_div U a (by omega))) rfl rfl rfl ?_
    refine W.any (.assign rfl) rfl rfl rfl ?_
    refine W.nil ?_
    refine E.thenN ?_
    refine WC.cut (ι := Unit) (fun () => [(2, .int .u64 ((Y : Nat) : Int)), (8, .int .u64 (3 : Int)), (9, .int .u64 ((a : Nat) : Int)), (10, .int .u64 ((b : Nat) : Int)), (11, .int .u64 ((U : Nat) : Int)), (13, .int .u64 ((e1 : Nat) : Int)), (14, .int .u64 ((e0 : Nat) : Int)), (15, .int .u64 ((Q1 : Nat) : Int))]) (fun () wc15 => Le w wc15) ?_ ?_
    · refine WC.block ?_
      refine WC.loop (ι := Nat × Nat) (fun ⟨qh, rh⟩ => [(2, .int .u64 ((Y : Nat) : Int)), (8, .int .u64 (3 : Int)), (9, .int .u64 ((a : Nat) : Int)), (10, .int .u64 ((b : Nat) : Int)), (11, .int .u64 ((U : Nat) : Int)), (13, .int .u64 ((e1 : Nat) : Int)), (14, .int .u64 ((e0 : Nat) : Int)), (15, .int .u64 ((qh : Nat) : Int)), (16, .int .u64 ((rh : Nat) : Int))]) (fun ⟨qh, rh⟩ wl => Le w wl ∧ qh * a + rh = U ∧ Q1 ≤ qh ∧ rh < 4294967296 ∧ qh ≤ 4294967297) (fun ⟨qh, rh⟩ => qh) (U / a, U % a) ?_ ?_ ?_
      · exact .cons rfl (.cons rfl (.cons rfl (.cons rfl (.cons rfl (.cons rfl (.cons rfl (.cons rfl (.cons rfl (.nil _)))))))))
      · exact ⟨L7_1, by rw [Nat.mul_comm]; exact Nat.div_add_mod _ _, by rw [hQ1]; exact dig_start hY (by omega) hU (by omega), Nat.lt_of_lt_of_le (Nat.mod_lt _ (by omega)) (by omega), dig_first hY (by omega) (by omega) hU⟩
      · rintro ⟨qh, rh⟩ wl ⟨Ll, hi, hq, hr, hq2⟩
        refine WC.seq ?_
        refine WC.seq ?_
        refine WC.region ?_
        refine W.any (.move rfl) rfl rfl rfl ?_
        refine W.any (.geq rfl rfl) rfl rfl rfl ?_
        by_cases hb : 4294967296 ≤ qh
        · refine W.any (.move rfl) rfl rfl rfl ?_
          refine W.skip rfl rfl rfl (decide_eq_true (by omega)) rfl rfl ?_
          refine W.skip rfl rfl rfl (decide_eq_true (by omega)) rfl rfl ?_
          refine W.skip rfl rfl rfl (decide_eq_true (by omega)) rfl rfl ?_
          refine W.skip rfl rfl rfl (decide_eq_true (by omega)) rfl rfl ?_
          refine W.skip rfl rfl rfl (decide_eq_true (by omega)) rfl rfl ?_
          refine W.skip rfl rfl rfl (decide_eq_true (by omega)) rfl rfl ?_
          refine W.skip rfl rfl rfl (decide_eq_true (by omega)) rfl rfl ?_
          refine W.skip rfl rfl rfl (decide_eq_true (by omega)) rfl rfl ?_
          refine W.any (.pickT rfl (decide_eq_true (by omega)) rfl) rfl rfl rfl ?_
          have hgt : Q1 < qh := by rw [hQ1]; exact dig_gt hY hU (by omega) hi (by omega)
          have hd : qh * a = (qh - 1) * a + a := by rw [← Nat.succ_mul]; congr 1; omega
          have hinv : (qh - 1) * a + (rh + a) = U := by omega
          refine W.nil ?_
          refine E.thenN ?_
          refine WC.condT rfl ?_
          refine WC.skip ?_
          refine E.thenN ?_
          refine WC.block ?_
          refine WC.seq ?_
          refine WC.region ?_
          refine W.any (.move rfl) rfl rfl rfl ?_
          refine W.any (.subN (qh) (1) (qh - 1) rfl rfl rfl rfl (by omega) (by omega)) rfl rfl rfl ?_
          refine W.any (.assign rfl) rfl rfl rfl ?_
          refine W.nil ?_
          refine E.thenN ?_
          refine WC.seq ?_
          refine WC.region ?_
          refine W.any (.move rfl) rfl rfl rfl ?_
          refine W.any (.move rfl) rfl rfl rfl ?_
          refine W.any (.addN (rh) (a) (rh + a) rfl rfl rfl rfl (by omega)) rfl rfl rfl ?_
          refine W.any (.assign rfl) rfl rfl rfl ?_
          refine W.nil ?_
          refine E.thenN ?_
          refine WC.seq ?_
          refine WC.region ?_
          refine W.any (.move rfl) rfl rfl rfl ?_
          refine W.any (.geq rfl rfl) rfl rfl rfl ?_
          refine W.nil ?_
          refine E.thenN ?_
          refine WC.cond rfl (fun c4 => ?_) (fun c4 => ?_)
          · have hqe : qh - 1 = Q1 := Nat.le_antisymm (by rw [hQ1]; exact dig_brk hY (by omega) hb1 hinv (by omega) (by omega)) (by omega)
            refine WC.exit ?_
            refine E.blkX rfl ?_
            refine E.thenX ?_
            refine E.blkH ?_
            refine E.meet () (.cons rfl (.cons rfl (.cons rfl (.cons rfl (.cons rfl (.cons rfl (.cons rfl (.cons' rfl (int_eq (by rw [hqe])) (.nil _))))))))) ?_
            exact Ll
          · refine WC.skip ?_
            refine E.blkN ?_
            refine E.again (qh - 1, rh + a) (.cons rfl (.cons rfl (.cons rfl (.cons rfl (.cons rfl (.cons rfl (.cons rfl (.cons rfl (.cons rfl (.nil _)))))))))) ?_ ?_
            · exact ⟨Ll, hinv, by omega, by omega, by omega⟩
            · first | omega | (simp only []; omega)
        · refine W.any (.move rfl) rfl rfl rfl ?_
          refine W.rdg (Any.rd (.move rfl) _) rfl rfl rfl (decide_eq_false (by omega)) rfl rfl ?_
          refine W.rdg (Any.rd (.move rfl) _) rfl rfl rfl (decide_eq_false (by omega)) rfl rfl ?_
          have hqb : qh * b < 18446744073709551616 := Nat.lt_of_le_of_lt (Nat.mul_le_mul (show qh ≤ 4294967295 by omega) (show b ≤ 4294967295 by omega)) (by decide)
          refine W.rdg (Any.rd (.mulN (qh) (b) (qh * b) rfl rfl rfl rfl (Nat.mod_eq_of_lt hqb)) _) rfl rfl rfl (decide_eq_false (by omega)) rfl rfl ?_
          refine W.rdg (Any.rd (.move rfl) _) rfl rfl rfl (decide_eq_false (by omega)) rfl rfl ?_
          refine W.rdg (Any.rd (.mulN (4294967296) (rh) (4294967296 * rh) rfl rfl rfl rfl (by omega)) _) rfl rfl rfl (decide_eq_false (by omega)) rfl rfl ?_
          refine W.rdg (Any.rd (.move rfl) _) rfl rfl rfl (decide_eq_false (by omega)) rfl rfl ?_
          refine W.rdg (Any.rd (.addN (4294967296 * rh) (e1) (4294967296 * rh + e1) rfl rfl rfl rfl (by omega)) _) rfl rfl rfl (decide_eq_false (by omega)) rfl rfl ?_
          refine W.rdg (Any.rd (.gtr rfl rfl) _) rfl rfl rfl (decide_eq_false (by omega)) rfl rfl ?_
          refine W.any (.pickF rfl (decide_eq_false (by omega)) rfl) rfl rfl rfl ?_
          refine W.nil ?_
          refine E.thenN ?_
          refine WC.cond rfl (fun c3 => ?_) (fun c3 => ?_)
          · have hgt : Q1 < qh := by rw [hQ1]; exact dig_gt hY hU (by omega) hi (by omega)
            have hd : qh * a = (qh - 1) * a + a := by rw [← Nat.succ_mul]; congr 1; omega
            have hinv : (qh - 1) * a + (rh + a) = U := by omega
            refine WC.skip ?_
            refine E.thenN ?_
            refine WC.block ?_
            refine WC.seq ?_
            refine WC.region ?_
            refine W.any (.move rfl) rfl rfl rfl ?_
            refine W.any (.subN (qh) (1) (qh - 1) rfl rfl rfl rfl (by omega) (by omega)) rfl rfl rfl ?_
            refine W.any (.assign rfl) rfl rfl rfl ?_
            refine W.nil ?_
            refine E.thenN ?_
            refine WC.seq ?_
            refine WC.region ?_
            refine W.any (.move rfl) rfl rfl rfl ?_
            refine W.any (.move rfl) rfl rfl rfl ?_
            refine W.any (.addN (rh) (a) (rh + a) rfl rfl rfl rfl (by omega)) rfl rfl rfl ?_
            refine W.any (.assign rfl) rfl rfl rfl ?_
            refine W.nil ?_
            refine E.thenN ?_
            refine WC.seq ?_
            refine WC.region ?_
            refine W.any (.move rfl) rfl rfl rfl ?_
            refine W.any (.geq rfl rfl) rfl rfl rfl ?_
            refine W.nil ?_
            refine E.thenN ?_
            refine WC.cond rfl (fun c4 => ?_) (fun c4 => ?_)
            · have hqe : qh - 1 = Q1 := Nat.le_antisymm (by rw [hQ1]; exact dig_brk hY (by omega) hb1 hinv (by omega) (by omega)) (by omega)
              refine WC.exit ?_
              refine E.blkX rfl ?_
              refine E.thenX ?_
              refine E.blkH ?_
              refine E.meet () (.cons rfl (.cons rfl (.cons rfl (.cons rfl (.cons rfl (.cons rfl (.cons rfl (.cons' rfl (int_eq (by rw [hqe])) (.nil _))))))))) ?_
              exact Ll
            · refine WC.skip ?_
              refine E.blkN ?_
              refine E.again (qh - 1, rh + a) (.cons rfl (.cons rfl (.cons rfl (.cons rfl (.cons rfl (.cons rfl (.cons rfl (.cons rfl (.cons rfl (.nil _)))))))))) ?_ ?_
              · exact ⟨Ll, hinv, by omega, by omega, by omega⟩
              · first | omega | (simp only []; omega)
          · have hqe : qh = Q1 := Nat.le_antisymm (by rw [hQ1]; exact dig_le hY (by omega) hi (by omega)) hq
            refine WC.exit ?_
            refine E.thenX ?_
            refine E.thenX ?_
            refine E.blkH ?_
            refine E.meet () (.cons rfl (.cons rfl (.cons rfl (.cons rfl (.cons rfl (.cons rfl (.cons rfl (.cons' rfl (int_eq (by rw [hqe])) (.nil _))))))))) ?_
            exact Ll
    · rintro ⟨⟩ wc15 Lc15
      refine WC.seq ?_
      refine WC.region ?_
      refine W.any (.move rfl) rfl rfl rfl ?_
      refine W.any (.mulN (U) (4294967296) (U * 4294967296 % 18446744073709551616) rfl rfl rfl rfl (rfl)) rfl rfl rfl ?_
      refine W.any (.move rfl) rfl rfl rfl ?_
      refine W.any (.addN (U * 4294967296 % 18446744073709551616) (e1) ((U * 4294967296 + e1) % 18446744073709551616) rfl rfl rfl rfl (by rw [Nat.mod_add_mod])) rfl rfl rfl ?_
      refine W.any (.move rfl) rfl rfl rfl ?_
      refine W.any (.move rfl) rfl rfl rfl ?_
      refine W.any (.mulN (Q1) (Y) (Q1 * Y % 18446744073709551616) rfl rfl rfl rfl (rfl)) rfl rfl rfl ?_
      refine W.any (.subN ((U * 4294967296 + e1) % 18446744073709551616) (Q1 * Y % 18446744073709551616) (R) rfl rfl rfl rfl (Nat.le_of_lt (Nat.mod_lt _ (by decide))) ((dig_rest Y _ _ hQ1 (by omega) (by omega)).trans hR.symm)) rfl rfl rfl ?_
      refine W.any (.assign rfl) rfl rfl rfl ?_
      refine W.nil ?_
      refine E.thenN ?_
      refine WC.seq ?_
      refine WC.region ?_
      refine W.any (.move rfl) rfl rfl rfl ?_
      refine W.any (.move rfl) rfl rfl rfl ?_
      refine W.any (.quoN (R) (a) (R / a) rfl rfl rfl rfl (by omega) (by omega) (rfl)) rfl rfl rfl ?_
      refine W.any (.assign rfl) rfl rfl rfl ?_
      refine W.nil ?_
      refine E.thenN ?_
      refine WC.seq ?_
      refine WC.region ?_
      refine W.any (.move rfl) rfl rfl rfl ?_
      refine W.any (.move rfl) rfl rfl rfl ?_
      refine W.any (.move rfl) rfl rfl rfl ?_
      refine W.any (.mulN (R / a) (a) (R / a * a) rfl rfl rfl rfl (Nat.mod_eq_of_lt (Nat.lt_of_le_of_lt (Nat.div_mul_le_self _ _) (by omega)))) rfl rfl rfl ?_
      refine W.any (.subN (R) (R / a * a) (R % a) rfl rfl rfl rfl (Nat.le_trans (Nat.div_mul_le_self _ _) (by omega)) (sub_div R a (by omega))) rfl rfl rfl ?_
      refine W.any (.assign rfl) rfl rfl rfl ?_
      refine W.nil ?_
      refine E.thenN ?_
      refine WC.cut (ι := Unit) (fun () => [(2, .int .u64 ((Y : Nat) : Int)), (8, .int .u64 (3 : Int)), (9, .int .u64 ((a : Nat) : Int)), (10, .int .u64 ((b : Nat) : Int)), (14, .int .u64 ((e0 : Nat) : Int)), (17, .int .u64 ((R : Nat) : Int)), (15, .int .u64 ((Q1 : Nat) : Int)), (18, .int .u64 ((Q2 : Nat) : Int))]) (fun () wc18 => Le w wc18) ?_ ?_
      · refine WC.block ?_
        refine WC.loop (ι := Nat × Nat) (fun ⟨qh, rh⟩ => [(2, .int .u64 ((Y : Nat) : Int)), (8, .int .u64 (3 : Int)), (9, .int .u64 ((a : Nat) : Int)), (10, .int .u64 ((b : Nat) : Int)), (14, .int .u64 ((e0 : Nat) : Int)), (17, .int .u64 ((R : Nat) : Int)), (15, .int .u64 ((Q1 : Nat) : Int)), (18, .int .u64 ((qh : Nat) : Int)), (16, .int .u64 ((rh : Nat) : Int))]) (fun ⟨qh, rh⟩ wl => Le w wl ∧ qh * a + rh = R ∧ Q2 ≤ qh ∧ rh < 4294967296 ∧ qh ≤ 4294967297) (fun ⟨qh, rh⟩ => qh) (R / a, R % a) ?_ ?_ ?_
        · exact .cons rfl (.cons rfl (.cons rfl (.cons rfl (.cons rfl (.cons rfl (.cons rfl (.cons rfl (.cons rfl (.nil _)))))))))
        · exact ⟨Lc15, by rw [Nat.mul_comm]; exact Nat.div_add_mod _ _, by rw [hQ2]; exact dig_start hY (by omega) hRY (by omega), Nat.lt_of_lt_of_le (Nat.mod_lt _ (by omega)) (by omega), dig_first hY (by omega) (by omega) hRY⟩
        · rintro ⟨qh, rh⟩ wl ⟨Ll, hi, hq, hr, hq2⟩
          refine WC.seq ?_
          refine WC.seq ?_
          refine WC.region ?_
          refine W.any (.move rfl) rfl rfl rfl ?_
          refine W.any (.geq rfl rfl) rfl rfl rfl ?_
          by_cases hb : 4294967296 ≤ qh
          · refine W.any (.move rfl) rfl rfl rfl ?_
            refine W.skip rfl rfl rfl (decide_eq_true (by omega)) rfl rfl ?_
            refine W.skip rfl rfl rfl (decide_eq_true (by omega)) rfl rfl ?_
            refine W.skip rfl rfl rfl (decide_eq_true (by omega)) rfl rfl ?_
            refine W.skip rfl rfl rfl (decide_eq_true (by omega)) rfl rfl ?_
            refine W.skip rfl rfl rfl (decide_eq_true (by omega)) rfl rfl ?_
            refine W.skip rfl rfl rfl (decide_eq_true (by omega)) rfl rfl ?_
            refine W.skip rfl rfl rfl (decide_eq_true (by omega)) rfl rfl ?_
            refine W.skip rfl rfl rfl (decide_eq_true (by omega)) rfl rfl ?_
            refine W.any (.pickT rfl (decide_eq_true (by omega)) rfl) rfl rfl rfl ?_
            have hgt : Q2 < qh := by rw [hQ2]; exact dig_gt hY hRY (by omega) hi (by omega)
            have hd : qh * a = (qh - 1) * a + a := by rw [← Nat.succ_mul]; congr 1; omega
            have hinv : (qh - 1) * a + (rh + a) = R := by omega
            refine W.nil ?_
            refine E.thenN ?_
            refine WC.condT rfl ?_
            refine WC.skip ?_
            refine E.thenN ?_
            refine WC.block ?_
            refine WC.seq ?_
            refine WC.region ?_
            refine W.any (.move rfl) rfl rfl rfl ?_
            refine W.any (.subN (qh) (1) (qh - 1) rfl rfl rfl rfl (by omega) (by omega)) rfl rfl rfl ?_
            refine W.any (.assign rfl) rfl rfl rfl ?_
            refine W.nil ?_
            refine E.thenN ?_
            refine WC.seq ?_
            refine WC.region ?_
            refine W.any (.move rfl) rfl rfl rfl ?_
            refine W.any (.move rfl) rfl rfl rfl ?_
            refine W.any (.addN (rh) (a) (rh + a) rfl rfl rfl rfl (by omega)) rfl rfl rfl ?_
            refine W.any (.assign rfl) rfl rfl rfl ?_
            refine W.nil ?_
            refine E.thenN ?_
            refine WC.seq ?_
            refine WC.region ?_
            refine W.any (.move rfl) rfl rfl rfl ?_
            refine W.any (.geq rfl rfl) rfl rfl rfl ?_
            refine W.nil ?_
            refine E.thenN ?_
            refine WC.cond rfl (fun c6 => ?_) (fun c6 => ?_)
            · have hqe : qh - 1 = Q2 := Nat.le_antisymm (by rw [hQ2]; exact dig_brk hY (by omega) hb1 hinv (by omega) (by omega)) (by omega)
              refine WC.exit ?_
              refine E.blkX rfl ?_
              refine E.thenX ?_
              refine E.blkH ?_
              refine E.meet () (.cons rfl (.cons rfl (.cons rfl (.cons rfl (.cons rfl (.cons rfl (.cons rfl (.cons' rfl (int_eq (by rw [hqe])) (.nil _))))))))) ?_
              exact Ll
            · refine WC.skip ?_
              refine E.blkN ?_
              refine E.again (qh - 1, rh + a) (.cons rfl (.cons rfl (.cons rfl (.cons rfl (.cons rfl (.cons rfl (.cons rfl (.cons rfl (.cons rfl (.nil _)))))))))) ?_ ?_
              · exact ⟨Ll, hinv, by omega, by omega, by omega⟩
              · first | omega | (simp only []; omega)
          · refine W.any (.move rfl) rfl rfl rfl ?_
            refine W.rdg (Any.rd (.move rfl) _) rfl rfl rfl (decide_eq_false (by omega)) rfl rfl ?_
            refine W.rdg (Any.rd (.move rfl) _) rfl rfl rfl (decide_eq_false (by omega)) rfl rfl ?_
            have hqb : qh * b < 18446744073709551616 := Nat.lt_of_le_of_lt (Nat.mul_le_mul (show qh ≤ 4294967295 by omega) (show b ≤ 4294967295 by omega)) (by decide)
            refine W.rdg (Any.rd (.mulN (qh) (b) (qh * b) rfl rfl rfl rfl (Nat.mod_eq_of_lt hqb)) _) rfl rfl rfl (decide_eq_false (by omega)) rfl rfl ?_
            refine W.rdg (Any.rd (.move rfl) _) rfl rfl rfl (decide_eq_false (by omega)) rfl rfl ?_
            refine W.rdg (Any.rd (.mulN (4294967296) (rh) (4294967296 * rh) rfl rfl rfl rfl (by omega)) _) rfl rfl rfl (decide_eq_false (by omega)) rfl rfl ?_
            refine W.rdg (Any.rd (.move rfl) _) rfl rfl rfl (decide_eq_false (by omega)) rfl rfl ?_
            refine W.rdg (Any.rd (.addN (4294967296 * rh) (e0) (4294967296 * rh + e0) rfl rfl rfl rfl (by omega)) _) rfl rfl rfl (decide_eq_false (by omega)) rfl rfl ?_
            refine W.rdg (Any.rd (.gtr rfl rfl) _) rfl rfl rfl (decide_eq_false (by omega)) rfl rfl ?_
            refine W.any (.pickF rfl (decide_eq_false (by omega)) rfl) rfl rfl rfl ?_
            refine W.nil ?_
            refine E.thenN ?_
            refine WC.cond rfl (fun c5 => ?_) (fun c5 => ?_)
            · have hgt : Q2 < qh := by rw [hQ2]; exact dig_gt hY hRY (by omega) hi (by omega)
              have hd : qh * a = (qh - 1) * a + a := by rw [← Nat.succ_mul]; congr 1; omega
              have hinv : (qh - 1) * a + (rh + a) = R := by omega
              refine WC.skip ?_
              refine E.thenN ?_
              refine WC.block ?_
              refine WC.seq ?_
              refine WC.region ?_
              refine W.any (.move rfl) rfl rfl rfl ?_
              refine W.any (.subN (qh) (1) (qh - 1) rfl rfl rfl rfl (by omega) (by omega)) rfl rfl rfl ?_
              refine W.any (.assign rfl) rfl rfl rfl ?_
              refine W.nil ?_
              refine E.thenN ?_
              refine WC.seq ?_
              refine WC.region ?_
              refine W.any (.move rfl) rfl rfl rfl ?_
              refine W.any (.move rfl) rfl rfl rfl ?_
              refine W.any (.addN (rh) (a) (rh + a) rfl rfl rfl rfl (by omega)) rfl rfl rfl ?_
              refine W.any (.assign rfl) rfl rfl rfl ?_
              refine W.nil ?_
              refine E.thenN ?_
              refine WC.seq ?_
              refine WC.region ?_
              refine W.any (.move rfl) rfl rfl rfl ?_
              refine W.any (.geq rfl rfl) rfl rfl rfl ?_
              refine W.nil ?_
              refine E.thenN ?_
              refine WC.cond rfl (fun c6 => ?_) (fun c6 => ?_)
              · have hqe : qh - 1 = Q2 := Nat.le_antisymm (by rw [hQ2]; exact dig_brk hY (by omega) hb1 hinv (by omega) (by omega)) (by omega)
                refine WC.exit ?_
                refine E.blkX rfl ?_
                refine E.thenX ?_
                refine E.blkH ?_
                refine E.meet () (.cons rfl (.cons rfl (.cons rfl (.cons rfl (.cons rfl (.cons rfl (.cons rfl (.cons' rfl (int_eq (by rw [hqe])) (.nil _))))))))) ?_
                exact Ll
              · refine WC.skip ?_
                refine E.blkN ?_
                refine E.again (qh - 1, rh + a) (.cons rfl (.cons rfl (.cons rfl (.cons rfl (.cons rfl (.cons rfl (.cons rfl (.cons rfl (.cons rfl (.nil _)))))))))) ?_ ?_
                · exact ⟨Ll, hinv, by omega, by omega, by omega⟩
                · first | omega | (simp only []; omega)
            · have hqe : qh = Q2 := Nat.le_antisymm (by rw [hQ2]; exact dig_le hY (by omega) hi (by omega)) hq
              refine WC.exit ?_
              refine E.thenX ?_
              refine E.thenX ?_
              refine E.blkH ?_
              refine E.meet () (.cons rfl (.cons rfl (.cons rfl (.cons rfl (.cons rfl (.cons rfl (.cons rfl (.cons' rfl (int_eq (by rw [hqe])) (.nil _))))))))) ?_
              exact Ll
      · rintro ⟨⟩ wc18 Lc18
        refine WC.seq ?_
        refine WC.region ?_
        refine W.any (.move rfl) rfl rfl rfl ?_
        refine W.any (.mulN (Q1) (4294967296) (Q1 * 4294967296 % 18446744073709551616) rfl rfl rfl rfl (rfl)) rfl rfl rfl ?_
        refine W.any (.move rfl) rfl rfl rfl ?_
        refine W.any (.addN (Q1 * 4294967296 % 18446744073709551616) (Q2) ((Q1 * 4294967296 % 18446744073709551616 + Q2) % 18446744073709551616) rfl rfl rfl rfl (rfl)) rfl rfl rfl ?_
        refine W.any (.move rfl) rfl rfl rfl ?_
        refine W.any (.mulN (R) (4294967296) (R * 4294967296 % 18446744073709551616) rfl rfl rfl rfl (rfl)) rfl rfl rfl ?_
        refine W.any (.move rfl) rfl rfl rfl ?_
        refine W.any (.addN (R * 4294967296 % 18446744073709551616) (e0) ((R * 4294967296 + e0) % 18446744073709551616) rfl rfl rfl rfl (by rw [Nat.mod_add_mod])) rfl rfl rfl ?_
        refine W.any (.move rfl) rfl rfl rfl ?_
        refine W.any (.move rfl) rfl rfl rfl ?_
        refine W.any (.mulN (Q2) (Y) (Q2 * Y % 18446744073709551616) rfl rfl rfl rfl (rfl)) rfl rfl rfl ?_
        refine W.any (.subN ((R * 4294967296 + e0) % 18446744073709551616) (Q2 * Y % 18446744073709551616) ((R * 4294967296 + e0) % Y) rfl rfl rfl rfl (Nat.le_of_lt (Nat.mod_lt _ (by decide))) (dig_rest Y _ _ hQ2 (by omega) (by omega))) rfl rfl rfl ?_
        refine W.any (.move rfl) rfl rfl rfl ?_
        refine W.any (.shrE ((R * 4294967296 + e0) % Y) (3) ((h * 18446744073709551616 + l) % y) rfl rfl rfl rfl (by decide) (hfin)) rfl rfl rfl ?_
        refine W.any (.assign rfl) rfl rfl rfl ?_
        refine W.any (.assign rfl) rfl rfl rfl ?_
        refine W.nil ?_
        refine E.thenN ?_
        refine WC.ret ?_
        refine E.ret2 rfl rfl rfl ?_
        exact ⟨_, rfl, Lc18⟩

theorem rem64_ok (h l y : Nat) (h1 : 1152921504606846976 ≤ y) (h2 : y < 4611686018427387904) (hl : l < 18446744073709551616) (w : World) : Calls Try.prog 163 #[.int .u64 ((h : Nat) : Int), .int .u64 ((l : Nat) : Int), .int .u64 ((y : Nat) : Int)] w fun e w' => e = .returned (.int .u64 (((h * 18446744073709551616 + l) % y : Nat) : Int)) ∧ Le w w' := by
  have hd : ∀ w, Calls Try.prog 158 #[.int .u64 ((h % y : Nat) : Int), .int .u64 ((l : Nat) : Int), .int .u64 ((y : Nat) : Int)] w fun e w' => ∃ qq : Int, e = .returned (.tuple #[.int .u64 qq, .int .u64 (((h * 18446744073709551616 + l) % y : Nat) : Int)]) ∧ Le w w' := fun w => by
    rw [show (h * 18446744073709551616 + l) % y = (h % y * 18446744073709551616 + l) % y by rw [Nat.add_mod (h % y * _), Nat.mul_mod (h % y), Nat.mod_mod, ← Nat.mul_mod, ← Nat.add_mod]]
    by_cases hs : y < 2305843009213693952
    · exact div64_ok3 (h % y) l y (by omega) (by omega) (Nat.mod_lt _ (by omega)) hl w
    · exact div64_ok2 (h % y) l y (by omega) (by omega) (Nat.mod_lt _ (by omega)) hl w
  refine enter Try.func163 rfl rfl ?_
  have L0 := Le.refl w
  refine WC.seq ?_
  refine WC.region ?_
  refine W.any (.assign rfl) rfl rfl rfl ?_
  refine W.nil ?_
  refine E.thenN ?_
  refine WC.seq ?_
  refine WC.region ?_
  refine W.any (.move rfl) rfl rfl rfl ?_
  refine W.any (.move rfl) rfl rfl rfl ?_
  refine W.any (.remN (h) (y) (h % y) rfl rfl rfl rfl (by omega) (rfl)) rfl rfl rfl ?_
  refine W.any (.move rfl) rfl rfl rfl ?_
  refine W.any (.move rfl) rfl rfl rfl ?_
  refine W.ef rfl rfl rfl ?_
  refine Ef.call go158 rfl rfl (hd w) ?_
  rintro _ w1_5 ⟨qq, rfl, h1_5⟩
  refine ⟨_, rfl, ?_⟩
  have L1_5 := L0.trans h1_5
  refine W.any (.move rfl) rfl rfl rfl ?_
  refine W.any (.extract rfl rfl) rfl rfl rfl ?_
  refine W.any (.extract rfl rfl) rfl rfl rfl ?_
  refine W.any (.assign rfl) rfl rfl rfl ?_
  refine W.any (.assign rfl) rfl rfl rfl ?_
  refine W.nil ?_
  refine E.thenN ?_
  refine WC.seq ?_
  refine WC.region ?_
  refine W.any (.move rfl) rfl rfl rfl ?_
  refine W.any (.assign rfl) rfl rfl rfl ?_
  refine W.nil ?_
  refine E.thenN ?_
  refine WC.ret ?_
  refine E.ret1 rfl rfl ?_
  exact ⟨rfl, L1_5⟩
end Go.Proofs.Ytfgakofjkldcjaa

namespace Go.Proofs.Ytfgakofjkldcjaa
open Go Go.Sx Go.Num
set_option maxRecDepth 20000
theorem times_ok (a b : Nat) (ha : a < 18446744073709551616) (hb : b < 18446744073709551616) (w : World) : Calls Try.prog 162 #[.int .u64 ((a : Nat) : Int), .int .u64 ((b : Nat) : Int)] w fun e w' => e = .returned (.int .u64 ((a * b % M : Nat) : Int)) ∧ Le w w' := by
  refine enter Try.func162 rfl rfl ?_
  have L0 := Le.refl w
  refine WC.seq ?_
  refine WC.region ?_
  refine W.any (.assign rfl) rfl rfl rfl ?_
  refine W.nil ?_
  refine E.thenN ?_
  refine WC.seq ?_
  refine WC.region ?_
  refine W.any (.move rfl) rfl rfl rfl ?_
  refine W.any (.move rfl) rfl rfl rfl ?_
  refine W.ef rfl rfl rfl ?_
  refine Ef.call go157 rfl rfl (mul64_ok a b ha hb w) ?_
  rintro _ w1_2 ⟨rfl, h1_2⟩
  refine ⟨_, rfl, ?_⟩
  have L1_2 := L0.trans h1_2
  refine W.any (.move rfl) rfl rfl rfl ?_
  refine W.any (.extract rfl rfl) rfl rfl rfl ?_
  refine W.any (.extract rfl rfl) rfl rfl rfl ?_
  refine W.any (.assign rfl) rfl rfl rfl ?_
  refine W.any (.assign rfl) rfl rfl rfl ?_
  refine W.nil ?_
  refine E.thenN ?_
  refine WC.seq ?_
  refine WC.region ?_
  refine W.any (.move rfl) rfl rfl rfl ?_
  refine W.any (.move rfl) rfl rfl rfl ?_
  refine W.ef rfl rfl rfl ?_
  refine Ef.call go163 rfl rfl (rem64_ok (a * b / 18446744073709551616) (a * b % 18446744073709551616) 4611686018427377339 (by decide) (by decide) (Nat.mod_lt _ (by decide)) w1_2) ?_
  rintro _ w2_2 ⟨rfl, h2_2⟩
  refine ⟨_, rfl, ?_⟩
  have L2_2 := L1_2.trans h2_2
  refine W.any (.assign rfl) rfl rfl rfl ?_
  refine W.nil ?_
  refine E.thenN ?_
  refine WC.ret ?_
  refine E.ret1 rfl rfl ?_
  exact ⟨by rw [Nat.div_add_mod']; rfl, L2_2⟩

theorem power_ok (a n : Nat) (ha : a < 18446744073709551616) (hn : n < 18446744073709551616) (w : World) : Calls Try.prog 138 #[.int .u64 ((a : Nat) : Int), .int .u64 ((n : Nat) : Int)] w fun e w' => e = .returned (.int .u64 ((pw a n : Nat) : Int)) ∧ Le w w' := by
  refine enter Try.func138 rfl rfl ?_
  have L0 := Le.refl w
  refine WC.seq ?_
  refine WC.region ?_
  refine W.any (.assign rfl) rfl rfl rfl ?_
  refine W.nil ?_
  refine E.thenN ?_
  refine WC.seq ?_
  refine WC.region ?_
  refine W.any (.assign rfl) rfl rfl rfl ?_
  refine W.nil ?_
  refine E.thenN ?_
  refine WC.seq ?_
  refine WC.block ?_
  refine WC.loop (ι := Nat × Nat × Nat) (fun ⟨b, m, out⟩ => [(0, .int .u64 ((b : Nat) : Int)), (1, .int .u64 ((m : Nat) : Int)), (5, .int .u64 ((out : Nat) : Int))]) (fun ⟨b, m, out⟩ wl => Le w wl ∧ b < 18446744073709551616 ∧ m < 18446744073709551616 ∧ out < M ∧ out * b ^ m % M = pw a n) (fun ⟨b, m, out⟩ => m) (a, n, 1) ?_ ?_ ?_
  · exact .cons rfl (.cons rfl (.cons rfl (.nil _)))
  · exact ⟨L0, ha, hn, M_one, pw_start a n hn⟩
  · rintro ⟨b, m, out⟩ wl ⟨Ll, hb, hm, ho, hi⟩
    refine WC.seq ?_
    refine WC.seq ?_
    refine WC.region ?_
    refine W.any (.move rfl) rfl rfl rfl ?_
    refine W.any (.gtr rfl rfl) rfl rfl rfl ?_
    refine W.nil ?_
    refine E.thenN ?_
    refine WC.cond rfl (fun c0 => ?_) (fun c0 => ?_)
    · have hbb : b * b % M < 18446744073709551616 := Nat.lt_trans (Nat.mod_lt _ (by decide)) (by decide)
      have ho2 : out < 18446744073709551616 := Nat.lt_trans ho (by decide)
      refine WC.skip ?_
      refine E.thenN ?_
      refine WC.seq ?_
      refine WC.block ?_
      refine WC.seq ?_
      refine WC.seq ?_
      refine WC.region ?_
      refine W.any (.move rfl) rfl rfl rfl ?_
      refine W.any (.andE (m) (1) (m % 2) rfl rfl rfl rfl (by omega) (by omega) (mask1 _)) rfl rfl rfl ?_
      refine W.any (.eql rfl rfl) rfl rfl rfl ?_
      refine W.nil ?_
      refine E.thenN ?_
      refine WC.cond rfl (fun c1 => ?_) (fun c1 => ?_)
      · refine WC.region ?_
        refine W.any (.move rfl) rfl rfl rfl ?_
        refine W.any (.move rfl) rfl rfl rfl ?_
        refine W.ef rfl rfl rfl ?_
        refine Ef.call go162 rfl rfl (times_ok out b ho2 hb wl) ?_
        rintro _ w5_2 ⟨rfl, h5_2⟩
        refine ⟨_, rfl, ?_⟩
        have L5_2 := Ll.trans h5_2
        refine W.any (.assign rfl) rfl rfl rfl ?_
        refine W.nil ?_
        refine E.thenN ?_
        refine WC.region ?_
        refine W.any (.move rfl) rfl rfl rfl ?_
        refine W.any (.move rfl) rfl rfl rfl ?_
        refine W.ef rfl rfl rfl ?_
        refine Ef.call go162 rfl rfl (times_ok b b hb hb w5_2) ?_
        rintro _ w6_2 ⟨rfl, h6_2⟩
        refine ⟨_, rfl, ?_⟩
        have L6_2 := L5_2.trans h6_2
        refine W.any (.assign rfl) rfl rfl rfl ?_
        refine W.nil ?_
        refine E.blkN ?_
        refine E.thenN ?_
        refine WC.region ?_
        refine W.any (.move rfl) rfl rfl rfl ?_
        refine W.any (.shrE (m) (1) (m / 2) rfl rfl rfl rfl (by decide) (rfl)) rfl rfl rfl ?_
        refine W.any (.assign rfl) rfl rfl rfl ?_
        refine W.nil ?_
        refine E.again (b * b % M, m / 2, out * b % M) (.cons rfl (.cons rfl (.cons rfl (.nil _)))) ?_ ?_
        · exact ⟨L6_2, hbb, by omega, Nat.mod_lt _ (by decide), by rw [step1 b m out (by omega)]; exact hi⟩
        · first | omega | (simp only []; omega)
      · refine WC.skip ?_
        refine E.thenN ?_
        refine WC.region ?_
        refine W.any (.move rfl) rfl rfl rfl ?_
        refine W.any (.move rfl) rfl rfl rfl ?_
        refine W.ef rfl rfl rfl ?_
        refine Ef.call go162 rfl rfl (times_ok b b hb hb wl) ?_
        rintro _ w6_2 ⟨rfl, h6_2⟩
        refine ⟨_, rfl, ?_⟩
        have L6_2 := Ll.trans h6_2
        refine W.any (.assign rfl) rfl rfl rfl ?_
        refine W.nil ?_
        refine E.blkN ?_
        refine E.thenN ?_
        refine WC.region ?_
        refine W.any (.move rfl) rfl rfl rfl ?_
        refine W.any (.shrE (m) (1) (m / 2) rfl rfl rfl rfl (by decide) (rfl)) rfl rfl rfl ?_
        refine W.any (.assign rfl) rfl rfl rfl ?_
        refine W.nil ?_
        refine E.again (b * b % M, m / 2, out) (.cons rfl (.cons rfl (.cons rfl (.nil _)))) ?_ ?_
        · exact ⟨L6_2, hbb, by omega, ho, by rw [step0 b m out (by omega)]; exact hi⟩
        · first | omega | (simp only []; omega)
    · have hm0 : m = 0 := by omega
      subst hm0
      rw [pw_end b out ho] at hi
      refine WC.exit ?_
      refine E.thenX ?_
      refine E.thenX ?_
      refine E.blkH ?_
      refine E.thenN ?_
      refine WC.seq ?_
      refine WC.region ?_
      refine W.any (.move rfl) rfl rfl rfl ?_
      refine W.any (.assign rfl) rfl rfl rfl ?_
      refine W.nil ?_
      refine E.thenN ?_
      refine WC.ret ?_
      refine E.ret1 rfl rfl ?_
      exact ⟨by rw [hi], Ll⟩

theorem dec1 (x : Nat) : decide ((x : Int) = 1) = decide (x = 1) := decide_eq_decide.2 (by omega)

theorem pright_ok (p : Nat) (hp : p < 18446744073709551616) (w : World) : Calls Try.prog 90 #[.int .u64 ((p : Nat) : Int)] w fun e w' => e = .returned (.bool (right p)) ∧ Le w w' := by
  refine enter Try.func90 rfl rfl ?_
  have L0 := Le.refl w
  refine WC.seq ?_
  refine WC.region ?_
  refine W.any (.assign rfl) rfl rfl rfl ?_
  refine W.nil ?_
  refine E.thenN ?_
  refine WC.seq ?_
  refine WC.region ?_
  refine W.any (.move rfl) rfl rfl rfl ?_
  by_cases h0 : 0 < p
  · refine W.any (.dec (.gtr rfl rfl) (decide_eq_true (by omega))) rfl rfl rfl ?_
    refine W.any (.move rfl) rfl rfl rfl ?_
    refine W.rdg (Any.rd (.move rfl) _) rfl rfl rfl (rfl) rfl rfl ?_
    by_cases h1 : p < 4611686018427377339
    · refine W.rdg (Any.rd (.dec (.lss rfl rfl) (decide_eq_true (by omega))) _) rfl rfl rfl (rfl) rfl rfl ?_
      refine W.any (.pickT rfl rfl rfl) rfl rfl rfl ?_
      refine W.any (.move rfl) rfl rfl rfl ?_
      refine W.rdg (Any.rd (.move rfl) _) rfl rfl rfl (rfl) rfl rfl ?_
      refine W.efg rfl rfl rfl (rfl) rfl rfl ?_
      refine Ef.call go138 rfl rfl (power_ok p 2305843009213688669 hp (by decide) w) ?_
      rintro _ w1_8 ⟨rfl, h1_8⟩
      refine ⟨_, rfl, ?_⟩
      have L1_8 := L0.trans h1_8
      refine W.rdg (Any.rd (.eql rfl rfl) _) rfl rfl rfl (rfl) rfl rfl ?_
      refine W.any (.pickT rfl rfl rfl) rfl rfl rfl ?_
      refine W.any (.assign rfl) rfl rfl rfl ?_
      refine W.nil ?_
      refine E.thenN ?_
      refine WC.ret ?_
      refine E.ret1 rfl rfl ?_
      exact ⟨by rw [right, decide_eq_true h0, decide_eq_true (show p < M from h1), Bool.true_and, Bool.true_and, ← dec1]; rfl, L1_8⟩
    · refine W.rdg (Any.rd (.dec (.lss rfl rfl) (decide_eq_false (by omega))) _) rfl rfl rfl (rfl) rfl rfl ?_
      refine W.any (.pickT rfl rfl rfl) rfl rfl rfl ?_
      refine W.any (.move rfl) rfl rfl rfl ?_
      refine W.skip rfl rfl rfl (rfl) rfl rfl ?_
      refine W.skip rfl rfl rfl (rfl) rfl rfl ?_
      refine W.skip rfl rfl rfl (rfl) rfl rfl ?_
      refine W.any (.pickF rfl rfl rfl) rfl rfl rfl ?_
      refine W.any (.assign rfl) rfl rfl rfl ?_
      refine W.nil ?_
      refine E.thenN ?_
      refine WC.ret ?_
      refine E.ret1 rfl rfl ?_
      exact ⟨by rw [right, decide_eq_false (show ¬ p < M from h1), Bool.and_false, Bool.false_and], L0⟩
  · refine W.any (.dec (.gtr rfl rfl) (decide_eq_false (by omega))) rfl rfl rfl ?_
    refine W.any (.move rfl) rfl rfl rfl ?_
    refine W.skip rfl rfl rfl (rfl) rfl rfl ?_
    refine W.skip rfl rfl rfl (rfl) rfl rfl ?_
    refine W.any (.pickF rfl rfl rfl) rfl rfl rfl ?_
    refine W.any (.move rfl) rfl rfl rfl ?_
    refine W.skip rfl rfl rfl (rfl) rfl rfl ?_
    refine W.skip rfl rfl rfl (rfl) rfl rfl ?_
    refine W.skip rfl rfl rfl (rfl) rfl rfl ?_
    refine W.any (.pickF rfl rfl rfl) rfl rfl rfl ?_
    refine W.any (.assign rfl) rfl rfl rfl ?_
    refine W.nil ?_
    refine E.thenN ?_
    refine WC.ret ?_
    refine E.ret1 rfl rfl ?_
    exact ⟨by rw [right, decide_eq_false h0, Bool.false_and, Bool.false_and], L0⟩

theorem taken_ok (p : Nat) (hp : p < 18446744073709551616) (w : World) : Calls Try.prog 141 #[.int .u64 ((p : Nat) : Int)] w fun e w' => e = .returned (.int .u64 ((taken p : Nat) : Int)) ∧ Le w w' := by
  refine enter Try.func141 rfl rfl ?_
  have L0 := Le.refl w
  refine WC.seq ?_
  refine WC.region ?_
  refine W.any (.assign rfl) rfl rfl rfl ?_
  refine W.nil ?_
  refine E.thenN ?_
  refine WC.seq ?_
  refine WC.seq ?_
  refine WC.region ?_
  refine W.any (.move rfl) rfl rfl rfl ?_
  refine W.ef rfl rfl rfl ?_
  refine Ef.call go90 rfl rfl (pright_ok p hp w) ?_
  rintro _ w1_1 ⟨rfl, h1_1⟩
  refine ⟨_, rfl, ?_⟩
  have L1_1 := L0.trans h1_1
  refine W.nil ?_
  refine E.thenN ?_
  refine WC.condB rfl (fun c0 => ?_) (fun c0 => ?_)
  · refine WC.seq ?_
    refine WC.region ?_
    refine W.any (.move rfl) rfl rfl rfl ?_
    refine W.any (.assign rfl) rfl rfl rfl ?_
    refine W.nil ?_
    refine E.thenN ?_
    refine WC.ret ?_
    refine E.thenR ?_
    refine E.ret1 rfl rfl ?_
    exact ⟨by rw [taken, if_pos c0], L1_1⟩
  · refine WC.skip ?_
    refine E.thenN ?_
    refine WC.seq ?_
    refine WC.region ?_
    refine W.any (.assign rfl) rfl rfl rfl ?_
    refine W.nil ?_
    refine E.thenN ?_
    refine WC.ret ?_
    refine E.ret1 rfl rfl ?_
    exact ⟨by rw [taken, if_neg (by rw [c0]; simp)]; rfl, L1_1⟩

theorem taken_lt (p : Nat) : taken p < 18446744073709551616 := Nat.lt_trans ((right_iff _).1 (right_taken p)).2.1 (by decide)

theorem scale_ok (p k : Nat) (hp : p < 18446744073709551616) (w : World) : Calls Try.prog 93 #[.int .u64 ((p : Nat) : Int), .int .u64 ((k : Nat) : Int)] w fun e w' => e = .returned (.int .u64 ((scale p k : Nat) : Int)) ∧ Le w w' := by
  refine enter Try.func93 rfl rfl ?_
  have L0 := Le.refl w
  refine WC.seq ?_
  refine WC.region ?_
  refine W.any (.assign rfl) rfl rfl rfl ?_
  refine W.nil ?_
  refine E.thenN ?_
  refine WC.seq ?_
  refine WC.region ?_
  refine W.any (.move rfl) rfl rfl rfl ?_
  refine W.ef rfl rfl rfl ?_
  refine Ef.call go141 rfl rfl (taken_ok p hp w) ?_
  rintro _ w1_1 ⟨rfl, h1_1⟩
  refine ⟨_, rfl, ?_⟩
  have L1_1 := L0.trans h1_1
  refine W.any (.move rfl) rfl rfl rfl ?_
  refine W.any (.remN (k) (2305843009213688669) (k % 2305843009213688669) rfl rfl rfl rfl (by decide) (rfl)) rfl rfl rfl ?_
  refine W.ef rfl rfl rfl ?_
  refine Ef.call go138 rfl rfl (power_ok (taken p) (k % 2305843009213688669) (taken_lt p) (by omega) w1_1) ?_
  rintro _ w1_4 ⟨rfl, h1_4⟩
  refine ⟨_, rfl, ?_⟩
  have L1_4 := L1_1.trans h1_4
  refine W.any (.assign rfl) rfl rfl rfl ?_
  refine W.nil ?_
  refine E.thenN ?_
  refine WC.ret ?_
  refine E.ret1 rfl rfl ?_
  exact ⟨rfl, L1_4⟩

theorem base_ok (k : Nat) (w : World) : Calls Try.prog 49 #[.int .u64 ((k : Nat) : Int)] w fun e w' => e = .returned (.int .u64 ((base k : Nat) : Int)) ∧ Le w w' := by
  refine enter Try.func49 rfl rfl ?_
  have L0 := Le.refl w
  refine WC.seq ?_
  refine WC.region ?_
  refine W.any (.assign rfl) rfl rfl rfl ?_
  refine W.nil ?_
  refine E.thenN ?_
  refine WC.seq ?_
  refine WC.region ?_
  refine W.any (.move rfl) rfl rfl rfl ?_
  refine W.ef rfl rfl rfl ?_
  refine Ef.call go93 rfl rfl (scale_ok 4 k (by decide) w) ?_
  rintro _ w1_1 ⟨rfl, h1_1⟩
  refine ⟨_, rfl, ?_⟩
  have L1_1 := L0.trans h1_1
  refine W.any (.assign rfl) rfl rfl rfl ?_
  refine W.nil ?_
  refine E.thenN ?_
  refine WC.ret ?_
  refine E.ret1 rfl rfl ?_
  exact ⟨rfl, L1_1⟩

theorem fright_ok (a : Nat) (w : World) : Calls Try.prog 60 #[.int .u64 ((a : Nat) : Int)] w fun e w' => e = .returned (.bool (decide (a < q))) ∧ Le w w' := by
  refine enter Try.func60 rfl rfl ?_
  have L0 := Le.refl w
  refine WC.seq ?_
  refine WC.region ?_
  refine W.any (.assign rfl) rfl rfl rfl ?_
  refine W.nil ?_
  refine E.thenN ?_
  refine WC.seq ?_
  refine WC.region ?_
  refine W.any (.move rfl) rfl rfl rfl ?_
  refine W.any (.lss rfl rfl) rfl rfl rfl ?_
  refine W.any (.assign rfl) rfl rfl rfl ?_
  refine W.nil ?_
  refine E.thenN ?_
  refine WC.ret ?_
  refine E.ret1 rfl rfl ?_
  exact ⟨congrArg (fun b => Ending.returned (Value.bool b)) (decide_eq_decide.2 (by rw [q_def]; omega)), L0⟩

theorem of_ok (a : Nat) (w : World) : Calls Try.prog 102 #[.int .u64 ((a : Nat) : Int)] w fun e w' => e = .returned (.int .u64 ((a % q : Nat) : Int)) ∧ Le w w' := by
  refine enter Try.func102 rfl rfl ?_
  have L0 := Le.refl w
  refine WC.seq ?_
  refine WC.region ?_
  refine W.any (.assign rfl) rfl rfl rfl ?_
  refine W.nil ?_
  refine E.thenN ?_
  refine WC.seq ?_
  refine WC.region ?_
  refine W.any (.move rfl) rfl rfl rfl ?_
  refine W.any (.remN (a) (2305843009213688669) (a % 2305843009213688669) rfl rfl rfl rfl (by decide) (rfl)) rfl rfl rfl ?_
  refine W.any (.assign rfl) rfl rfl rfl ?_
  refine W.nil ?_
  refine E.thenN ?_
  refine WC.ret ?_
  refine E.ret1 rfl rfl ?_
  exact ⟨rfl, L0⟩

end Go.Proofs.Ytfgakofjkldcjaa

namespace Go.Sx
open Go Go.RowKit
end Go.Sx
namespace Go.Proofs.Ytfgakofjkldcjaa
open Go Go.Sx Go.Hsp Go.Num Go.Osp
set_option maxRecDepth 20000
theorem plus_ok (a b : Nat) (ha : a < 2305843009213688669) (hb : b < 2305843009213688669) (w : World) : Calls Try.prog 103 #[.int .u64 ((a : Nat) : Int), .int .u64 ((b : Nat) : Int)] w fun e w' => e = .returned (.int .u64 (((a + b) % q : Nat) : Int)) ∧ Le w w' := by
  refine enter Try.func103 rfl rfl ?_
  have L0 := Le.refl w
  refine WC.seq ?_
  refine WC.region ?_
  refine W.any (.assign rfl) rfl rfl rfl ?_
  refine W.nil ?_
  refine E.thenN ?_
  refine WC.seq ?_
  refine WC.region ?_
  refine W.any (.move rfl) rfl rfl rfl ?_
  refine W.any (.move rfl) rfl rfl rfl ?_
  refine W.any (.addN (a) (b) (a + b) rfl rfl rfl rfl (Nat.mod_eq_of_lt (by omega))) rfl rfl rfl ?_
  refine W.any (.remN (a + b) (2305843009213688669) ((a + b) % 2305843009213688669) rfl rfl rfl rfl (by decide) (rfl)) rfl rfl rfl ?_
  refine W.any (.assign rfl) rfl rfl rfl ?_
  refine W.nil ?_
  refine E.thenN ?_
  refine WC.ret ?_
  refine E.ret1 rfl rfl ?_
  exact ⟨rfl, L0⟩

theorem fadd_ok (a b : Nat) (w : World) : Calls Try.prog 55 #[.int .u64 ((a : Nat) : Int), .int .u64 ((b : Nat) : Int)] w fun e w' => e = .returned (.int .u64 ((addS a b : Nat) : Int)) ∧ Le w w' := by
  refine enter Try.func55 rfl rfl ?_
  have L0 := Le.refl w
  refine WC.seq ?_
  refine WC.region ?_
  refine W.any (.assign rfl) rfl rfl rfl ?_
  refine W.nil ?_
  refine E.thenN ?_
  refine WC.seq ?_
  refine WC.region ?_
  refine W.any (.move rfl) rfl rfl rfl ?_
  refine W.ef rfl rfl rfl ?_
  refine Ef.call go102 rfl rfl (of_ok a w) ?_
  rintro _ w1_1 ⟨rfl, h1_1⟩
  refine ⟨_, rfl, ?_⟩
  have L1_1 := L0.trans h1_1
  refine W.any (.move rfl) rfl rfl rfl ?_
  refine W.ef rfl rfl rfl ?_
  refine Ef.call go102 rfl rfl (of_ok b w1_1) ?_
  rintro _ w1_3 ⟨rfl, h1_3⟩
  refine ⟨_, rfl, ?_⟩
  have L1_3 := L1_1.trans h1_3
  refine W.ef rfl rfl rfl ?_
  refine Ef.call go103 rfl rfl (plus_ok (a % q) (b % q) (Nat.mod_lt _ (by decide)) (Nat.mod_lt _ (by decide)) w1_3) ?_
  rintro _ w1_4 ⟨rfl, h1_4⟩
  refine ⟨_, rfl, ?_⟩
  have L1_4 := L1_3.trans h1_4
  refine W.any (.assign rfl) rfl rfl rfl ?_
  refine W.nil ?_
  refine E.thenN ?_
  refine WC.ret ?_
  refine E.ret1 rfl rfl ?_
  exact ⟨rfl, L1_4⟩

end Go.Proofs.Ytfgakofjkldcjaa

namespace Go.Proofs.Ytfgakofjkldcjaa
open Go Go.Sx Go.Hsp Go.Num Go.Osp Go.Gsp
set_option maxRecDepth 20000
set_option linter.unusedVariables false
set_option linter.unusedSimpArgs false
def iv (x : Int) : List Value := [.int .i64 x]
theorem iv_row : RowF iv 1 := ⟨fun _ => rfl, fun x v hv => by simp [iv] at hv; subst hv; rfl, by decide⟩
theorem coins_ok (a : Int) (w : World) : Calls Try.prog 129 #[.int .i64 (a)] w fun r w' => r = .returned (.bool (coinB a)) ∧ Le w w' := by
  refine enter Try.func129 rfl rfl ?_
  have L0 := Le.refl w
  refine WC.seq ?_
  refine WC.region ?_
  refine W.any (.assign rfl) rfl rfl rfl ?_
  refine W.nil ?_
  refine E.thenN ?_
  refine WC.seq ?_
  refine WC.region ?_
  refine W.any (.move rfl) rfl rfl rfl ?_
  refine W.any (.geq rfl rfl) rfl rfl rfl ?_
  by_cases q1_2 : 0 ≤ a
  · refine W.any (.dec (.move rfl) (decide_eq_true q1_2)) rfl rfl rfl ?_
    refine W.rdg (Any.rd (.move rfl) _) rfl rfl rfl (rfl) rfl rfl ?_
    refine W.rdg (Any.rd (.leq rfl rfl) _) rfl rfl rfl (rfl) rfl rfl ?_
    refine W.any (.pickT rfl rfl rfl) rfl rfl rfl ?_
    refine W.any (.assign rfl) rfl rfl rfl ?_
    refine W.nil ?_
    refine E.thenN ?_
    refine WC.ret ?_
    refine E.retG1 rfl rfl ?_
    exact ⟨congrArg (fun b => Ending.returned (Value.bool b)) (by simp [coinB, inB, q1_2]), L0⟩
  · refine W.any (.dec (.move rfl) (decide_eq_false q1_2)) rfl rfl rfl ?_
    refine W.skip rfl rfl rfl (rfl) rfl rfl ?_
    refine W.skip rfl rfl rfl (rfl) rfl rfl ?_
    refine W.any (.pickF rfl rfl rfl) rfl rfl rfl ?_
    refine W.any (.assign rfl) rfl rfl rfl ?_
    refine W.nil ?_
    refine E.thenN ?_
    refine WC.ret ?_
    refine E.retG1 rfl rfl ?_
    exact ⟨congrArg (fun b => Ending.returned (Value.bool b)) (by simp [coinB, inB, q1_2]), L0⟩

theorem nadd_ok (a b : Int) (w : World) : Calls Try.prog 75 #[.int .i64 (a), .int .i64 (b)] w fun r w' => r = .returned (.tuple #[.int .i64 (addC a b).1, .bool (addC a b).2]) ∧ Le w w' := by
  refine enter Try.func75 rfl rfl ?_
  have L0 := Le.refl w
  refine WC.seq ?_
  refine WC.region ?_
  refine W.any (.assign rfl) rfl rfl rfl ?_
  refine W.any (.assign rfl) rfl rfl rfl ?_
  refine W.nil ?_
  refine E.thenN ?_
  refine WC.seq ?_
  refine WC.seq ?_
  refine WC.region ?_
  refine W.any (.move rfl) rfl rfl rfl ?_
  refine W.ef rfl rfl rfl ?_
  refine Ef.call go129 rfl rfl (coins_ok a w) ?_
  rintro _ w1_1 ⟨rfl, h1_1⟩
  refine ⟨_, rfl, ?_⟩
  have L1 := L0.trans h1_1
  refine W.any (.not rfl) rfl rfl rfl ?_
  by_cases q1_3 : coinB a = true
  · refine W.any (.dec (.move rfl) (congrArg not (q1_3))) rfl rfl rfl ?_
    refine W.rdg (Any.rd (.move rfl) _) rfl rfl rfl (rfl) rfl rfl ?_
    refine W.efg rfl rfl rfl (rfl) rfl rfl ?_
    refine Ef.call go129 rfl rfl (coins_ok b w1_1) ?_
    rintro _ w1_5 ⟨rfl, h1_5⟩
    refine ⟨_, rfl, ?_⟩
    have L2 := L1.trans h1_5
    refine W.rdg (Any.rd (.not rfl) _) rfl rfl rfl (rfl) rfl rfl ?_
    refine W.any (.pickF rfl rfl rfl) rfl rfl rfl ?_
    by_cases q1_8 : coinB b = true
    · refine W.any (.dec (.move rfl) (congrArg not (q1_8))) rfl rfl rfl ?_
      refine W.rdg (Any.rd (.move rfl) _) rfl rfl rfl (rfl) rfl rfl ?_
      refine W.rdg (Any.rd (.move rfl) _) rfl rfl rfl (rfl) rfl rfl ?_
      have hb1 := inB_T (show inB b 0 1125899906842624 = true by assumption)
      refine W.rdg (Any.rd (.sub rfl rfl (by omega)) _) rfl rfl rfl (rfl) rfl rfl ?_
      refine W.rdg (Any.rd (.gtr rfl rfl) _) rfl rfl rfl (rfl) rfl rfl ?_
      refine W.any (.pickF rfl rfl rfl) rfl rfl rfl ?_
      refine W.nil ?_
      refine E.thenN ?_
      by_cases c0 : (1125899906842624 - b) < a
      · refine WC.condY rfl (decide_eq_true c0) ?_
        refine WC.seq ?_
        refine WC.region ?_
        refine W.any (.assign rfl) rfl rfl rfl ?_
        refine W.any (.assign rfl) rfl rfl rfl ?_
        refine W.nil ?_
        refine E.thenN ?_
        refine WC.ret ?_
        refine E.thenR ?_
        refine E.retG2 rfl rfl rfl ?_
        exact ⟨(by first | rfl | (simp [addC, q1_3, q1_8, c0]; done) | (simp [addC, q1_3, q1_8, c0]; omega) | (simp [addC, q1_3, q1_8, c0]; split <;> first | (exfalso; omega) | (simp; done) | (simp; omega))), L2⟩
      · refine WC.condN rfl (decide_eq_false c0) ?_
        refine WC.skip ?_
        refine E.thenN ?_
        refine WC.seq ?_
        refine WC.region ?_
        refine W.any (.move rfl) rfl rfl rfl ?_
        refine W.any (.move rfl) rfl rfl rfl ?_
        refine W.any (.add rfl rfl (by have := inB_T (show inB a 0 1125899906842624 = true by assumption); have := inB_T (show inB b 0 1125899906842624 = true by assumption); omega)) rfl rfl rfl ?_
        refine W.any (.assign rfl) rfl rfl rfl ?_
        refine W.any (.assign rfl) rfl rfl rfl ?_
        refine W.nil ?_
        refine E.thenN ?_
        refine WC.ret ?_
        refine E.retG2 rfl rfl rfl ?_
        exact ⟨(by first | rfl | (simp [addC, q1_3, q1_8, c0]; done) | (simp [addC, q1_3, q1_8, c0]; omega) | (simp [addC, q1_3, q1_8, c0]; split <;> first | (exfalso; omega) | (simp; done) | (simp; omega))), L2⟩
    · refine W.any (.dec (.move rfl) (congrArg not ((Bool.eq_false_iff.2 q1_8)))) rfl rfl rfl ?_
      refine W.skip rfl rfl rfl (rfl) rfl rfl ?_
      refine W.skip rfl rfl rfl (rfl) rfl rfl ?_
      refine W.skip rfl rfl rfl (rfl) rfl rfl ?_
      refine W.skip rfl rfl rfl (rfl) rfl rfl ?_
      refine W.any (.pickT rfl rfl rfl) rfl rfl rfl ?_
      refine W.nil ?_
      refine E.thenN ?_
      refine WC.condT rfl ?_
      refine WC.seq ?_
      refine WC.region ?_
      refine W.any (.assign rfl) rfl rfl rfl ?_
      refine W.any (.assign rfl) rfl rfl rfl ?_
      refine W.nil ?_
      refine E.thenN ?_
      refine WC.ret ?_
      refine E.thenR ?_
      refine E.retG2 rfl rfl rfl ?_
      exact ⟨(by first | rfl | (simp [addC, q1_3, q1_8]; done) | (simp [addC, q1_3, q1_8]; omega) | (simp [addC, q1_3, q1_8]; split <;> first | (exfalso; omega) | (simp; done) | (simp; omega))), L2⟩
  · refine W.any (.dec (.move rfl) (congrArg not ((Bool.eq_false_iff.2 q1_3)))) rfl rfl rfl ?_
    refine W.skip rfl rfl rfl (rfl) rfl rfl ?_
    refine W.skip rfl rfl rfl (rfl) rfl rfl ?_
    refine W.skip rfl rfl rfl (rfl) rfl rfl ?_
    refine W.any (.pickT rfl rfl rfl) rfl rfl rfl ?_
    refine W.any (.move rfl) rfl rfl rfl ?_
    refine W.skip rfl rfl rfl (rfl) rfl rfl ?_
    refine W.skip rfl rfl rfl (rfl) rfl rfl ?_
    refine W.skip rfl rfl rfl (rfl) rfl rfl ?_
    refine W.skip rfl rfl rfl (rfl) rfl rfl ?_
    refine W.any (.pickT rfl rfl rfl) rfl rfl rfl ?_
    refine W.nil ?_
    refine E.thenN ?_
    refine WC.condT rfl ?_
    refine WC.seq ?_
    refine WC.region ?_
    refine W.any (.assign rfl) rfl rfl rfl ?_
    refine W.any (.assign rfl) rfl rfl rfl ?_
    refine W.nil ?_
    refine E.thenN ?_
    refine WC.ret ?_
    refine E.thenR ?_
    refine E.retG2 rfl rfl rfl ?_
    exact ⟨(by first | rfl | (simp [addC, q1_3]; done) | (simp [addC, q1_3]; omega) | (simp [addC, q1_3]; split <;> first | (exfalso; omega) | (simp; done) | (simp; omega))), L1⟩

end Go.Proofs.Ytfgakofjkldcjaa

namespace Go.Proofs.Ytfgakofjkldcjaa
open Go Go.Sx Go.Hsp Go.Num Go.Osp Go.Gsp
set_option maxRecDepth 20000
set_option linter.unusedSimpArgs false
set_option linter.unusedVariables false
def partV (x : Part) : List Value := [.int .i64 x.ch, .int .i64 x.id, .int .i64 x.am, .int .i64 x.ex, .int .u64 ((x.pt : Nat) : Int), .int .u64 ((x.bl : Nat) : Int)]
theorem partV_row : RowF partV 6 := ⟨fun _ => rfl, fun x v hv => by simp [partV] at hv; rcases hv with rfl | rfl | rfl | rfl | rfl | rfl <;> rfl, by decide⟩
def paidV (x : Paid) : List Value := [.int .i64 x.ch, .int .i64 x.id, .int .u64 ((x.sec : Nat) : Int)]
theorem paidV_row : RowF paidV 3 := ⟨fun _ => rfl, fun x v hv => by simp [paidV] at hv; rcases hv with rfl | rfl | rfl <;> rfl, by decide⟩
def ckV (k : Int × Int) : List Value := [.int .i64 k.1, .int .i64 k.2]
def ikf (x : Int) : Value := .int .i64 x
def ckf (k : Int × Int) : Value := .agg (ckV k).toArray
def ptf (g : Nat) : Value := .pointer (some ⟨g, 0, none⟩)
theorem kint : KeyG Try.prog 3 ikf := KeyG.int Try.underlying3
theorem eqv_ck {d : Nat} (a b : Int × Int) : Eqv Try.prog (d + 2) 135 (ckf a) (ckf b) (decide (a = b)) := by
  have h := Eqv.ints (P := Try.prog) (d := d) (t := 135) (ckV a) (ckV b) [(.i64, 0), (.i64, 1)] (by kernel_rfl) (by kernel_rfl) (by
    rw [show (Try.prog.fieldsOf 135) = _ from (by unfold Program.fieldsOf; rw [Try.underlying135])]
    exact ⟨by decide, rfl, Try.underlying3, ⟨_, _, rfl, rfl⟩, by decide, rfl, Try.underlying3, ⟨_, _, rfl, rfl⟩, trivial⟩)
  have e : eqAll (ckV a) (ckV b) [(.i64, 0), (.i64, 1)] = decide (a = b) := by
    obtain ⟨a1, a2⟩ := a
    obtain ⟨b1, b2⟩ := b
    simp only [eqAll, ckV, List.getElem?_cons_zero, List.getElem?_cons_succ, Prod.mk.injEq]
    rw [Bool.eq_iff_iff]
    simp only [Bool.and_eq_true, decide_eq_true_eq, Bool.and_true]
  rw [e] at h
  exact h
theorem check_ck (b : Bool) (k : Int × Int) (w : World) : ∀ m : Nat, (Instr.checkKey b (m + 2) 135 (ckf k)).run Try.prog w = .ok () w := by
  intro m
  have hi : ∀ (v : Int) (w : World), (Instr.checkKey b (m + 1) 3 (.int .i64 v)).run Try.prog w = .ok () w := fun v w => by unfold Instr.checkKey; simp [run_underlying Try.underlying3]
  have p0 : ∀ w : World, (part 3 (ckV k).toArray 0).run Try.prog w = .ok (.int .i64 k.1) w := run_part1 na3 rfl
  have p1 : ∀ w : World, (part 3 (ckV k).toArray 1).run Try.prog w = .ok (.int .i64 k.2) w := run_part1 na3 rfl
  unfold Instr.checkKey
  simp only [Sem.run_bind, run_underlying Try.underlying135, Result.andThen_ok, ckf]
  simp [p0, p1, hi]
theorem kcond : KeyG Try.prog 135 ckf := KeyG.struct Try.underlying135 (fun b k w => check_ck b k w 9998) (fun k => ⟨_, rfl⟩) (fun a b => eqv_ck (d := 9998) a b)
/-- What is left behind parts are let go. -/
def delK (l : List Part) (m : List (Nat × (Int × Int) × Bool)) : List (Nat × (Int × Int) × Bool) := m.filter fun y => !(l.any fun p => decide (y.2.1 = keyP p))
theorem delK_nil (m : List (Nat × (Int × Int) × Bool)) : delK [] m = m := by simp [delK]
theorem delK_snoc (l : List Part) (k : Nat) (h : k < l.length) (m : List (Nat × (Int × Int) × Bool)) : (delK (l.take k) m).filter (fun y => decide (y.2.1 ≠ ((l.getD k noPart).ch, (l.getD k noPart).id))) = delK (l.take (k + 1)) m := by
  unfold delK
  rw [List.filter_filter, List.take_add_one, getS l noPart h]
  apply List.filter_congr
  intro y _
  rw [List.any_append]
  rw [Bool.eq_iff_iff]
  simp only [Bool.and_eq_true, Bool.not_eq_true', List.any_cons, List.any_nil, Bool.or_false, Bool.or_eq_false_iff, decide_eq_true_eq, Option.toList, decide_eq_false_iff_not, keyP, ne_eq]
  exact ⟨fun h => ⟨h.2, decide_eq_false h.1⟩, fun h => ⟨of_decide_eq_false h.2, h.1⟩⟩
theorem may_ok3 {gp ga gh gq cq ck : Nat} {Aq : Option Addr} {lh : List (Nat × (Int × Int) × Bool)} (p : Pay) (x : Part) (ht : Int) (w : World) (hp : Blk w gp 117 #[.map (some ga), .map (some gh)]) (hq : Blk w gq 126 #[.int .u64 (((p.sec : Nat) : Int)), .int .i64 (p.tot), .int .i64 (p.by_), .int .i64 (p.lst), .slice Aq p.held.length cq, .int .i64 (p.sum), .bool (p.ovr), .bool (p.paid)]) (hM : MapG w ckf Value.bool gh lh ck) (hhl : p.held.length ≤ 1000000) : Calls Try.prog 64 #[.pointer (some ⟨gp, 0, none⟩), .pointer (some ⟨gq, 0, none⟩), .agg (partV x).toArray, .int .i64 (ht)] w fun r w' => r = .returned (.tuple #[.int .i64 (mayP p (fun k => (getG k lh).getD false) x ht).1, .int .i64 (mayP p (fun k => (getG k lh).getD false) x ht).2]) ∧ Le w w' := by
  refine enter Try.func64 rfl rfl ?_
  have L0 := Le.refl w
  refine WC.seq ?_
  refine WC.region ?_
  refine W.ef rfl rfl rfl ?_
  refine Ef.boxA rfl ?_
  intro g0_0 w0_0 hg0_0 b0_0 h0_0
  have L1 := L0.trans h0_0
  have b0_0 : Blk w0_0 g0_0 33 (partV x).toArray := b0_0
  refine W.any (.assign rfl) rfl rfl rfl ?_
  refine W.any (.assign rfl) rfl rfl rfl ?_
  refine W.nil ?_
  refine E.thenN ?_
  refine WC.seq ?_
  refine WC.draw [0, 1, 2, 3, 4, 5, 6, 7, 8, 9, 10, 11] mixed (by kernel_rfl) ?_
  intro w1 d1
  have L2 := L1.trans d1
  refine G.any rfl rfl (.move rfl) rfl rfl rfl ?_
  refine G.any rfl rfl (.nilCheck rfl) rfl rfl rfl ?_
  refine G.any rfl rfl (.field0 fa126_5 rfl) rfl rfl rfl ?_
  refine G.rd rfl rfl (.loadB (v := .int .i64 (p.sum)) na3 rfl (hq.le L2) rfl) rfl rfl rfl ?_
  refine G.any rfl rfl (.field0 fa33_2 rfl) rfl rfl rfl ?_
  have f3 := (b0_0.le d1)
  refine G.rd rfl rfl (.loadB (v := .int .i64 (x.am)) na3 rfl f3 rfl) rfl rfl rfl ?_
  refine G.ef rfl rfl rfl rfl rfl ?_
  refine Ef.call go75 rfl rfl (nadd_ok p.sum x.am w1) ?_
  rintro _ w1_6 ⟨rfl, h1_6⟩
  refine ⟨_, rfl, ?_⟩
  refine ⟨fun _ => h1_6, ?_⟩
  have L4 := L2.trans h1_6
  refine G.any rfl rfl (.move rfl) rfl rfl rfl ?_
  refine G.any rfl rfl (.extract (v := .int .i64 ((addC p.sum x.am).1)) rfl rfl) rfl rfl rfl ?_
  refine G.any rfl rfl (.extract (v := .bool ((addC p.sum x.am).2)) rfl rfl) rfl rfl rfl ?_
  refine G.any rfl rfl (.assign rfl) rfl rfl rfl ?_
  refine G.any rfl rfl (.assign rfl) rfl rfl rfl ?_
  refine G.nil ?_
  refine E.thenN ?_
  refine WC.seq ?_
  refine WC.block ?_
  refine WC.seq ?_
  refine WC.region ?_
  refine W.any (.move rfl) rfl rfl rfl ?_
  refine W.any (.nilCheck rfl) rfl rfl rfl ?_
  refine W.any (.field0 fa126_6 rfl) rfl rfl rfl ?_
  refine W.rd (.loadB (v := .bool (p.ovr)) na4 rfl (hq.le L4) rfl) rfl rfl rfl ?_
  refine W.any (.assign rfl) rfl rfl rfl ?_
  refine W.nil ?_
  refine E.thenN ?_
  by_cases c0 : p.ovr = true
  · refine WC.condY rfl (c0) ?_
    refine WC.seq ?_
    refine WC.region ?_
    refine W.any (.assign rfl) rfl rfl rfl ?_
    refine W.any (.assign rfl) rfl rfl rfl ?_
    refine W.nil ?_
    refine E.thenN ?_
    refine WC.ret ?_
    refine E.blkR ?_
    refine E.thenR ?_
    refine E.retG2 rfl rfl rfl ?_
    have h8 : ((8 : Int) ≤ ↑p.held.length) = (8 ≤ p.held.length) := propext (by omega); (try simp only [ne_eq, Decidable.not_not, Int.natCast_inj, h8] at c0); exact ⟨by unfold mayP opensP keyP; simp [c0]; try omega, L4⟩
  · refine WC.condN rfl ((Bool.eq_false_iff.2 c0)) ?_
    refine WC.seq ?_
    refine WC.region ?_
    refine W.any (.move rfl) rfl rfl rfl ?_
    refine W.any (.move rfl) rfl rfl rfl ?_
    refine W.any (.nilCheck rfl) rfl rfl rfl ?_
    refine W.any (.field0 fa126_2 rfl) rfl rfl rfl ?_
    refine W.rd (.loadB (v := .int .i64 (p.by_)) na3 rfl (hq.le L4) rfl) rfl rfl rfl ?_
    refine W.any (.geq rfl rfl) rfl rfl rfl ?_
    refine W.any (.assign rfl) rfl rfl rfl ?_
    refine W.nil ?_
    refine E.thenN ?_
    by_cases c1 : p.by_ ≤ ht
    · refine WC.condY rfl (decide_eq_true c1) ?_
      refine WC.seq ?_
      refine WC.region ?_
      refine W.any (.assign rfl) rfl rfl rfl ?_
      refine W.any (.assign rfl) rfl rfl rfl ?_
      refine W.nil ?_
      refine E.thenN ?_
      refine WC.ret ?_
      refine E.blkR ?_
      refine E.thenR ?_
      refine E.retG2 rfl rfl rfl ?_
      have h8 : ((8 : Int) ≤ ↑p.held.length) = (8 ≤ p.held.length) := propext (by omega); (try simp only [ne_eq, Decidable.not_not, Int.natCast_inj, h8] at c0); (try simp only [ne_eq, Decidable.not_not, Int.natCast_inj, h8] at c1); exact ⟨by unfold mayP opensP keyP; simp [c0, c1]; try omega, L4⟩
    · refine WC.condN rfl (decide_eq_false c1) ?_
      refine WC.seq ?_
      refine WC.region ?_
      refine W.any (.field0 fa33_2 rfl) rfl rfl rfl ?_
      have f5 := (f3.le h1_6)
      refine W.rd (.loadB (v := .int .i64 (x.am)) na3 rfl f5 rfl) rfl rfl rfl ?_
      refine W.any (.lss rfl rfl) rfl rfl rfl ?_
      by_cases q6_3 : x.am < 1
      · refine W.any (.dec (.move rfl) (decide_eq_true q6_3)) rfl rfl rfl ?_
        refine W.skip rfl rfl rfl (rfl) rfl rfl ?_
        refine W.skip rfl rfl rfl (rfl) rfl rfl ?_
        refine W.skip rfl rfl rfl (rfl) rfl rfl ?_
        refine W.any (.pickT rfl rfl rfl) rfl rfl rfl ?_
        refine W.any (.assign rfl) rfl rfl rfl ?_
        refine W.nil ?_
        refine E.thenN ?_
        refine WC.condT rfl ?_
        refine WC.seq ?_
        refine WC.region ?_
        refine W.any (.assign rfl) rfl rfl rfl ?_
        refine W.any (.assign rfl) rfl rfl rfl ?_
        refine W.nil ?_
        refine E.thenN ?_
        refine WC.ret ?_
        refine E.blkR ?_
        refine E.thenR ?_
        refine E.retG2 rfl rfl rfl ?_
        have h8 : ((8 : Int) ≤ ↑p.held.length) = (8 ≤ p.held.length) := propext (by omega); (try simp only [ne_eq, Decidable.not_not, Int.natCast_inj, h8] at c0); (try simp only [ne_eq, Decidable.not_not, Int.natCast_inj, h8] at c1); (try simp only [ne_eq, Decidable.not_not, Int.natCast_inj, h8] at q6_3); exact ⟨by unfold mayP opensP keyP; simp [c0, c1, q6_3]; try omega, L4⟩
      · refine W.any (.dec (.move rfl) (decide_eq_false q6_3)) rfl rfl rfl ?_
        refine W.rdg (Any.rd (.field0 fa33_2 rfl) _) rfl rfl rfl (rfl) rfl rfl ?_
        refine W.rdg (.loadB (v := .int .i64 (x.am)) na3 rfl f5 rfl) rfl rfl rfl (rfl) rfl rfl ?_
        refine W.rdg (Any.rd (.gtr rfl rfl) _) rfl rfl rfl (rfl) rfl rfl ?_
        refine W.any (.pickF rfl rfl rfl) rfl rfl rfl ?_
        refine W.any (.assign rfl) rfl rfl rfl ?_
        refine W.nil ?_
        refine E.thenN ?_
        by_cases c2 : 1125899906842624 < x.am
        · refine WC.condY rfl (decide_eq_true c2) ?_
          refine WC.seq ?_
          refine WC.region ?_
          refine W.any (.assign rfl) rfl rfl rfl ?_
          refine W.any (.assign rfl) rfl rfl rfl ?_
          refine W.nil ?_
          refine E.thenN ?_
          refine WC.ret ?_
          refine E.blkR ?_
          refine E.thenR ?_
          refine E.retG2 rfl rfl rfl ?_
          have h8 : ((8 : Int) ≤ ↑p.held.length) = (8 ≤ p.held.length) := propext (by omega); (try simp only [ne_eq, Decidable.not_not, Int.natCast_inj, h8] at c0); (try simp only [ne_eq, Decidable.not_not, Int.natCast_inj, h8] at c1); (try simp only [ne_eq, Decidable.not_not, Int.natCast_inj, h8] at q6_3); (try simp only [ne_eq, Decidable.not_not, Int.natCast_inj, h8] at c2); exact ⟨by unfold mayP opensP keyP; simp [c0, c1, q6_3, c2]; try omega, L4⟩
        · refine WC.condN rfl (decide_eq_false c2) ?_
          refine WC.seq ?_
          refine WC.draw [0, 1, 2, 3, 4, 5, 6, 7] mixed (by kernel_rfl) ?_
          intro w8 d8
          have L6 := L4.trans d8
          refine G.any rfl rfl (.field0 fa33_3 rfl) rfl rfl rfl ?_
          have f7 := (f5.le d8)
          refine G.rd rfl rfl (.loadB (v := .int .i64 (x.ex)) na3 rfl f7 rfl) rfl rfl rfl ?_
          refine G.any rfl rfl (.move rfl) rfl rfl rfl ?_
          refine G.any rfl rfl (.nilCheck rfl) rfl rfl rfl ?_
          refine G.any rfl rfl (.field0 fa126_3 rfl) rfl rfl rfl ?_
          refine G.rd rfl rfl (.loadB (v := .int .i64 (p.lst)) na3 rfl (hq.le L6) rfl) rfl rfl rfl ?_
          refine G.any rfl rfl (.lss rfl rfl) rfl rfl rfl ?_
          refine G.any rfl rfl (.assign rfl) rfl rfl rfl ?_
          refine G.nil ?_
          refine E.thenN ?_
          by_cases c3 : x.ex < p.lst
          · refine WC.condY rfl (decide_eq_true c3) ?_
            refine WC.seq ?_
            refine WC.region ?_
            refine W.any (.assign rfl) rfl rfl rfl ?_
            refine W.any (.assign rfl) rfl rfl rfl ?_
            refine W.nil ?_
            refine E.thenN ?_
            refine WC.ret ?_
            refine E.blkR ?_
            refine E.thenR ?_
            refine E.retG2 rfl rfl rfl ?_
            have h8 : ((8 : Int) ≤ ↑p.held.length) = (8 ≤ p.held.length) := propext (by omega); (try simp only [ne_eq, Decidable.not_not, Int.natCast_inj, h8] at c0); (try simp only [ne_eq, Decidable.not_not, Int.natCast_inj, h8] at c1); (try simp only [ne_eq, Decidable.not_not, Int.natCast_inj, h8] at q6_3); (try simp only [ne_eq, Decidable.not_not, Int.natCast_inj, h8] at c2); (try simp only [ne_eq, Decidable.not_not, Int.natCast_inj, h8] at c3); exact ⟨by unfold mayP opensP keyP; simp [c0, c1, q6_3, c2, c3]; try omega, L6⟩
          · refine WC.condN rfl (decide_eq_false c3) ?_
            refine WC.seq ?_
            refine WC.draw [0, 1, 2, 3, 4, 5, 6, 7, 8, 9, 10] mixed (by kernel_rfl) ?_
            intro w10 d10
            have L8 := L6.trans d10
            refine G.any rfl rfl (.move rfl) rfl rfl rfl ?_
            refine G.any rfl rfl (.nilCheck rfl) rfl rfl rfl ?_
            refine G.any rfl rfl (.field0 fa117_1 rfl) rfl rfl rfl ?_
            refine G.rd rfl rfl (.loadB (v := .map (some gh)) na115 rfl (hp.le L8) rfl) rfl rfl rfl ?_
            refine G.any rfl rfl (.field0 fa33_0 rfl) rfl rfl rfl ?_
            have f9 := (f7.le d10)
            refine G.rd rfl rfl (.loadB (v := .int .i64 (x.ch)) na3 rfl f9 rfl) rfl rfl rfl ?_
            refine G.any rfl rfl (.field0 fa33_1 rfl) rfl rfl rfl ?_
            refine G.rd rfl rfl (.loadB (v := .int .i64 (x.id)) na3 rfl f9 rfl) rfl rfl rfl ?_
            refine G.any rfl rfl (.buildP (ckV (x.ch, x.id)) pl135 z135 rfl rfl) rfl rfl rfl ?_
            refine G.rd rfl rfl (.as (.lookup1 (key := (x.ch, x.id)) Try.underlying115 kcond z4 rfl rfl (hM.le L8)) (boolGet _)) rfl rfl rfl ?_
            refine G.any rfl rfl (.assign rfl) rfl rfl rfl ?_
            refine G.nil ?_
            refine E.thenN ?_
            by_cases c4 : (getG (x.ch, x.id) lh).getD false = true
            · refine WC.condY rfl (c4) ?_
              refine WC.seq ?_
              refine WC.region ?_
              refine W.any (.assign rfl) rfl rfl rfl ?_
              refine W.any (.assign rfl) rfl rfl rfl ?_
              refine W.nil ?_
              refine E.thenN ?_
              refine WC.ret ?_
              refine E.blkR ?_
              refine E.thenR ?_
              refine E.retG2 rfl rfl rfl ?_
              have h8 : ((8 : Int) ≤ ↑p.held.length) = (8 ≤ p.held.length) := propext (by omega); (try simp only [ne_eq, Decidable.not_not, Int.natCast_inj, h8] at c0); (try simp only [ne_eq, Decidable.not_not, Int.natCast_inj, h8] at c1); (try simp only [ne_eq, Decidable.not_not, Int.natCast_inj, h8] at q6_3); (try simp only [ne_eq, Decidable.not_not, Int.natCast_inj, h8] at c2); (try simp only [ne_eq, Decidable.not_not, Int.natCast_inj, h8] at c3); (try simp only [ne_eq, Decidable.not_not, Int.natCast_inj, h8] at c4); exact ⟨by unfold mayP opensP keyP; simp [c0, c1, q6_3, c2, c3, c4]; try omega, L8⟩
            · refine WC.condN rfl ((Bool.eq_false_iff.2 c4)) ?_
              refine WC.seq ?_
              refine WC.draw [0, 1, 2, 3, 4, 5, 6, 7, 8, 9, 10, 13, 14, 11, 12, 15, 16, 17] mixed (by kernel_rfl) ?_
              intro w12 d12
              have L10 := L8.trans d12
              refine G.any rfl rfl (.field0 fa33_5 rfl) rfl rfl rfl ?_
              have f11 := (f9.le d12)
              refine G.rd rfl rfl (.loadB (v := .int .u64 (((x.bl : Nat) : Int))) na30 rfl f11 rfl) rfl rfl rfl ?_
              refine G.ef rfl rfl rfl rfl rfl ?_
              refine Ef.call go60 rfl rfl (fright_ok x.bl w12) ?_
              rintro _ w12_2 ⟨rfl, h12_2⟩
              refine ⟨_, rfl, ?_⟩
              refine ⟨fun _ => h12_2, ?_⟩
              have L12 := L10.trans h12_2
              refine G.any rfl rfl (.not rfl) rfl rfl rfl ?_
              by_cases q12_4 : x.bl < q
              · refine G.any rfl rfl (.dec (.move rfl) (congrArg not (decide_eq_true q12_4))) rfl rfl rfl ?_
                refine G.anyg rfl rfl (.move rfl) rfl rfl rfl (rfl) rfl rfl ?_
                refine G.anyg rfl rfl (.nilCheck rfl) rfl rfl rfl (rfl) rfl rfl ?_
                refine G.anyg rfl rfl (.field0 fa126_0 rfl) rfl rfl rfl (rfl) rfl rfl ?_
                refine G.rdg rfl rfl (.loadB (v := .int .u64 (((p.sec : Nat) : Int))) na30 rfl (hq.le L12) rfl) rfl rfl rfl (rfl) rfl rfl ?_
                refine G.anyg rfl rfl (.field0 fa33_5 rfl) rfl rfl rfl (rfl) rfl rfl ?_
                have f13 := (f11.le h12_2)
                refine G.rdg rfl rfl (.loadB (v := .int .u64 (((x.bl : Nat) : Int))) na30 rfl f13 rfl) rfl rfl rfl (rfl) rfl rfl ?_
                refine G.anyg rfl rfl (.field0 fa33_4 rfl) rfl rfl rfl (rfl) rfl rfl ?_
                refine G.rdg rfl rfl (.loadB (v := .int .u64 (((x.pt : Nat) : Int))) na31 rfl f13 rfl) rfl rfl rfl (rfl) rfl rfl ?_
                refine G.efg rfl rfl rfl rfl rfl (rfl) rfl rfl ?_
                refine Ef.call go55 rfl rfl (fadd_ok p.sec x.bl w12_2) ?_
                rintro _ w12_11 ⟨rfl, h12_11⟩
                refine ⟨_, rfl, ?_⟩
                refine ⟨fun _ => h12_11, ?_⟩
                have L14 := L12.trans h12_11
                refine G.efg rfl rfl rfl rfl rfl (rfl) rfl rfl ?_
                refine Ef.call go49 rfl rfl (base_ok (addS p.sec x.bl) w12_11) ?_
                rintro _ w12_12 ⟨rfl, h12_12⟩
                refine ⟨_, rfl, ?_⟩
                refine ⟨fun _ => h12_12, ?_⟩
                have L15 := L14.trans h12_12
                refine G.anyg rfl rfl (.neq rfl rfl) rfl rfl rfl (rfl) rfl rfl ?_
                refine G.any rfl rfl (.pickF rfl rfl rfl) rfl rfl rfl ?_
                refine G.any rfl rfl (.assign rfl) rfl rfl rfl ?_
                refine G.nil ?_
                refine E.thenN ?_
                by_cases c5 : ((base (addS p.sec x.bl) : Nat) : Int) ≠ ((x.pt : Nat) : Int)
                · refine WC.condY rfl (decide_eq_true c5) ?_
                  refine WC.seq ?_
                  refine WC.region ?_
                  refine W.any (.assign rfl) rfl rfl rfl ?_
                  refine W.any (.assign rfl) rfl rfl rfl ?_
                  refine W.nil ?_
                  refine E.thenN ?_
                  refine WC.ret ?_
                  refine E.blkR ?_
                  refine E.thenR ?_
                  refine E.retG2 rfl rfl rfl ?_
                  have h8 : ((8 : Int) ≤ ↑p.held.length) = (8 ≤ p.held.length) := propext (by omega); (try simp only [ne_eq, Decidable.not_not, Int.natCast_inj, h8] at c0); (try simp only [ne_eq, Decidable.not_not, Int.natCast_inj, h8] at c1); (try simp only [ne_eq, Decidable.not_not, Int.natCast_inj, h8] at q6_3); (try simp only [ne_eq, Decidable.not_not, Int.natCast_inj, h8] at c2); (try simp only [ne_eq, Decidable.not_not, Int.natCast_inj, h8] at c3); (try simp only [ne_eq, Decidable.not_not, Int.natCast_inj, h8] at c4); (try simp only [ne_eq, Decidable.not_not, Int.natCast_inj, h8] at q12_4); (try simp only [ne_eq, Decidable.not_not, Int.natCast_inj, h8] at c5); exact ⟨by unfold mayP opensP keyP; simp [c0, c1, q6_3, c2, c3, c4, q12_4, c5]; try omega, L15⟩
                · refine WC.condN rfl (decide_eq_false c5) ?_
                  refine WC.seq ?_
                  refine WC.region ?_
                  refine W.any (.move rfl) rfl rfl rfl ?_
                  refine W.any (.nilCheck rfl) rfl rfl rfl ?_
                  refine W.any (.field0 fa126_4 rfl) rfl rfl rfl ?_
                  refine W.rd (.loadB (v := .slice Aq p.held.length cq) na46 rfl (hq.le L15) rfl) rfl rfl rfl ?_
                  refine W.rd (.len Try.underlying46 rfl) rfl rfl rfl ?_
                  refine W.any (.geq rfl rfl) rfl rfl rfl ?_
                  refine W.any (.assign rfl) rfl rfl rfl ?_
                  refine W.nil ?_
                  refine E.thenN ?_
                  by_cases c6 : 8 ≤ ((p.held.length : Nat) : Int)
                  · refine WC.condY rfl (decide_eq_true c6) ?_
                    refine WC.seq ?_
                    refine WC.region ?_
                    refine W.any (.assign rfl) rfl rfl rfl ?_
                    refine W.any (.assign rfl) rfl rfl rfl ?_
                    refine W.nil ?_
                    refine E.thenN ?_
                    refine WC.ret ?_
                    refine E.blkR ?_
                    refine E.thenR ?_
                    refine E.retG2 rfl rfl rfl ?_
                    have h8 : ((8 : Int) ≤ ↑p.held.length) = (8 ≤ p.held.length) := propext (by omega); (try simp only [ne_eq, Decidable.not_not, Int.natCast_inj, h8] at c0); (try simp only [ne_eq, Decidable.not_not, Int.natCast_inj, h8] at c1); (try simp only [ne_eq, Decidable.not_not, Int.natCast_inj, h8] at q6_3); (try simp only [ne_eq, Decidable.not_not, Int.natCast_inj, h8] at c2); (try simp only [ne_eq, Decidable.not_not, Int.natCast_inj, h8] at c3); (try simp only [ne_eq, Decidable.not_not, Int.natCast_inj, h8] at c4); (try simp only [ne_eq, Decidable.not_not, Int.natCast_inj, h8] at q12_4); (try simp only [ne_eq, Decidable.not_not, Int.natCast_inj, h8] at c5); (try simp only [ne_eq, Decidable.not_not, Int.natCast_inj, h8] at c6); exact ⟨by unfold mayP opensP keyP; simp [c0, c1, q6_3, c2, c3, c4, q12_4, c5, c6]; try omega, L15⟩
                  · refine WC.condN rfl (decide_eq_false c6) ?_
                    refine WC.seq ?_
                    refine WC.region ?_
                    refine W.any (.move rfl) rfl rfl rfl ?_
                    refine W.any (.not rfl) rfl rfl rfl ?_
                    refine W.any (.assign rfl) rfl rfl rfl ?_
                    refine W.nil ?_
                    refine E.thenN ?_
                    by_cases c7 : (addC p.sum x.am).2 = true
                    · refine WC.condN rfl (congrArg not (c7)) ?_
                      refine WC.skip ?_
                      refine E.blkN ?_
                      refine E.thenN ?_
                      refine WC.seq ?_
                      refine WC.region ?_
                      refine W.any (.move rfl) rfl rfl rfl ?_
                      refine W.any (.assign rfl) rfl rfl rfl ?_
                      refine W.any (.assign rfl) rfl rfl rfl ?_
                      refine W.nil ?_
                      refine E.thenN ?_
                      refine WC.ret ?_
                      refine E.retG2 rfl rfl rfl ?_
                      have h8 : ((8 : Int) ≤ ↑p.held.length) = (8 ≤ p.held.length) := propext (by omega); (try simp only [ne_eq, Decidable.not_not, Int.natCast_inj, h8] at c0); (try simp only [ne_eq, Decidable.not_not, Int.natCast_inj, h8] at c1); (try simp only [ne_eq, Decidable.not_not, Int.natCast_inj, h8] at q6_3); (try simp only [ne_eq, Decidable.not_not, Int.natCast_inj, h8] at c2); (try simp only [ne_eq, Decidable.not_not, Int.natCast_inj, h8] at c3); (try simp only [ne_eq, Decidable.not_not, Int.natCast_inj, h8] at c4); (try simp only [ne_eq, Decidable.not_not, Int.natCast_inj, h8] at q12_4); (try simp only [ne_eq, Decidable.not_not, Int.natCast_inj, h8] at c5); (try simp only [ne_eq, Decidable.not_not, Int.natCast_inj, h8] at c6); (try simp only [ne_eq, Decidable.not_not, Int.natCast_inj, h8] at c7); exact ⟨by unfold mayP opensP keyP; simp [c0, c1, q6_3, c2, c3, c4, q12_4, c5, c6, c7]; try omega, L15⟩
                    · refine WC.condY rfl (congrArg not ((Bool.eq_false_iff.2 c7))) ?_
                      refine WC.seq ?_
                      refine WC.region ?_
                      refine W.any (.assign rfl) rfl rfl rfl ?_
                      refine W.any (.assign rfl) rfl rfl rfl ?_
                      refine W.nil ?_
                      refine E.thenN ?_
                      refine WC.ret ?_
                      refine E.blkR ?_
                      refine E.thenR ?_
                      refine E.retG2 rfl rfl rfl ?_
                      have h8 : ((8 : Int) ≤ ↑p.held.length) = (8 ≤ p.held.length) := propext (by omega); (try simp only [ne_eq, Decidable.not_not, Int.natCast_inj, h8] at c0); (try simp only [ne_eq, Decidable.not_not, Int.natCast_inj, h8] at c1); (try simp only [ne_eq, Decidable.not_not, Int.natCast_inj, h8] at q6_3); (try simp only [ne_eq, Decidable.not_not, Int.natCast_inj, h8] at c2); (try simp only [ne_eq, Decidable.not_not, Int.natCast_inj, h8] at c3); (try simp only [ne_eq, Decidable.not_not, Int.natCast_inj, h8] at c4); (try simp only [ne_eq, Decidable.not_not, Int.natCast_inj, h8] at q12_4); (try simp only [ne_eq, Decidable.not_not, Int.natCast_inj, h8] at c5); (try simp only [ne_eq, Decidable.not_not, Int.natCast_inj, h8] at c6); (try simp only [ne_eq, Decidable.not_not, Int.natCast_inj, h8] at c7); exact ⟨by unfold mayP opensP keyP; simp [c0, c1, q6_3, c2, c3, c4, q12_4, c5, c6, c7]; try omega, L15⟩
              · refine G.any rfl rfl (.dec (.move rfl) (congrArg not (decide_eq_false q12_4))) rfl rfl rfl ?_
                refine G.skip rfl rfl rfl rfl (rfl) rfl rfl ?_
                refine G.skip rfl rfl rfl rfl (rfl) rfl rfl ?_
                refine G.skip rfl rfl rfl rfl (rfl) rfl rfl ?_
                refine G.skip rfl rfl rfl rfl (rfl) rfl rfl ?_
                refine G.skip rfl rfl rfl rfl (rfl) rfl rfl ?_
                refine G.skip rfl rfl rfl rfl (rfl) rfl rfl ?_
                refine G.skip rfl rfl rfl rfl (rfl) rfl rfl ?_
                refine G.skip rfl rfl rfl rfl (rfl) rfl rfl ?_
                refine G.skip rfl rfl rfl rfl (rfl) rfl rfl ?_
                refine G.skip rfl rfl rfl rfl (rfl) rfl rfl ?_
                refine G.skip rfl rfl rfl rfl (rfl) rfl rfl ?_
                refine G.any rfl rfl (.pickT rfl rfl rfl) rfl rfl rfl ?_
                refine G.any rfl rfl (.assign rfl) rfl rfl rfl ?_
                refine G.nil ?_
                refine E.thenN ?_
                refine WC.condT rfl ?_
                refine WC.seq ?_
                refine WC.region ?_
                refine W.any (.assign rfl) rfl rfl rfl ?_
                refine W.any (.assign rfl) rfl rfl rfl ?_
                refine W.nil ?_
                refine E.thenN ?_
                refine WC.ret ?_
                refine E.blkR ?_
                refine E.thenR ?_
                refine E.retG2 rfl rfl rfl ?_
                have h8 : ((8 : Int) ≤ ↑p.held.length) = (8 ≤ p.held.length) := propext (by omega); (try simp only [ne_eq, Decidable.not_not, Int.natCast_inj, h8] at c0); (try simp only [ne_eq, Decidable.not_not, Int.natCast_inj, h8] at c1); (try simp only [ne_eq, Decidable.not_not, Int.natCast_inj, h8] at q6_3); (try simp only [ne_eq, Decidable.not_not, Int.natCast_inj, h8] at c2); (try simp only [ne_eq, Decidable.not_not, Int.natCast_inj, h8] at c3); (try simp only [ne_eq, Decidable.not_not, Int.natCast_inj, h8] at c4); (try simp only [ne_eq, Decidable.not_not, Int.natCast_inj, h8] at q12_4); exact ⟨by unfold mayP opensP keyP; simp [c0, c1, q6_3, c2, c3, c4, q12_4]; try omega, L12⟩

theorem clear_ok {gp ga gh gq nq cq ck : Nat} {Aq : Option Addr} {lh : List (Nat × (Int × Int) × Bool)} (p : Pay) (w : World) (hp : Blk w gp 117 #[.map (some ga), .map (some gh)]) (hq : Blk w gq 126 #[.int .u64 (((p.sec : Nat) : Int)), .int .i64 (p.tot), .int .i64 (p.by_), .int .i64 (p.lst), .slice Aq nq cq, .int .i64 (p.sum), .bool (p.ovr), .bool (p.paid)]) (hM : MapG w ckf Value.bool gh lh ck) (hO : OVec w 0 33 partV 6 Aq nq cq p.held) (hhl : nq ≤ 1000000) (n1 : gp ≠ gq) (n2 : gp ≠ gh) (n3 : gq ≠ gh) (n4 : rowOf Aq cq ≠ some gh) (n5 : rowOf Aq cq ≠ some gq) : Calls Try.prog 65 #[.pointer (some ⟨gp, 0, none⟩), .pointer (some ⟨gq, 0, none⟩)] w fun r w' => r = .returned (.slice Aq nq cq) ∧ Blk w' gq 126 #[.int .u64 (((p.sec : Nat) : Int)), .int .i64 (p.tot), .int .i64 (p.by_), .int .i64 (p.lst), .slice none 0 0, .int .i64 (p.sum), .bool true, .bool (p.paid)] ∧ MapG w' ckf Value.bool gh (delK p.held lh) ck ∧ ChP w w' (fun k => k = gq ∨ k = gh) := by
  refine enter Try.func65 rfl rfl ?_
  have L0 := ChP.refl w (fun k => k = gq ∨ k = gh)
  refine WC.seq ?_
  refine WC.region ?_
  refine W.any (.assign rfl) rfl rfl rfl ?_
  refine W.nil ?_
  refine E.thenN ?_
  refine WC.seq ?_
  refine WC.seq ?_
  refine WC.region ?_
  refine W.any (.move rfl) rfl rfl rfl ?_
  refine W.any (.nilCheck rfl) rfl rfl rfl ?_
  refine W.any (.field0 fa126_4 rfl) rfl rfl rfl ?_
  refine W.rd (.loadB (v := .slice Aq nq cq) na46 rfl hq rfl) rfl rfl rfl ?_
  refine W.rd (.len Try.underlying46 rfl) rfl rfl rfl ?_
  refine W.any (.move rfl) rfl rfl rfl ?_
  refine W.nil ?_
  refine E.thenN ?_
  refine WC.block ?_
  refine WC.loop (ι := Nat) (fun k => [(0, .pointer (some ⟨gp, 0, none⟩)), (1, .pointer (some ⟨gq, 0, none⟩)), (10, .slice Aq nq cq), (11, .int .i64 (((nq : Nat) : Int))), (12, .int .i64 (((k : Nat) : Int)))]) (fun k wl0 => (k ≤ nq) ∧ ChP w wl0 (fun k => k = gq ∨ k = gh) ∧ w.heap.size ≤ wl0.heap.size ∧ Blk wl0 gp 117 #[.map (some ga), .map (some gh)] ∧ MapG wl0 ckf Value.bool gh (delK (p.held.take k) lh) ck ∧ Blk wl0 gq 126 #[.int .u64 (((p.sec : Nat) : Int)), .int .i64 (p.tot), .int .i64 (p.by_), .int .i64 (p.lst), .slice Aq nq cq, .int .i64 (p.sum), .bool (p.ovr), .bool (p.paid)] ∧ OVec wl0 0 33 partV 6 Aq nq cq p.held) (fun k => nq - k) 0 ?_ ?_ ?_
  · exact .cons rfl (.cons rfl (.cons rfl (.cons rfl (.cons rfl (.nil _)))))
  · exact ⟨by omega, L0, Nat.le_refl _, hp, (by rw [List.take_zero, delK_nil]; exact hM), hq, hO⟩
  · rintro k wl0 ⟨hk, Ll0, sz0, f0_0, f0_1, f0_2, f0_3⟩
    have hOl := hO.1
    refine WC.seq ?_
    refine WC.region ?_
    refine W.any (.lss rfl rfl) rfl rfl rfl ?_
    refine W.nil ?_
    refine E.thenN ?_
    refine WC.seq ?_
    by_cases c0 : ((k : Nat) : Int) < ((nq : Nat) : Int)
    · refine WC.condY rfl (decide_eq_true c0) ?_
      refine WC.skip ?_
      refine E.thenN ?_
      refine WC.seq ?_
      refine WC.block ?_
      refine WC.seq ?_
      refine WC.region ?_
      refine W.any (.idxS (k) Try.underlying46 sz33 rfl rfl (hO.vec.isSome partV_row (by omega)) (rfl) (by omega)) rfl rfl rfl ?_
      refine W.rd (.vload ag33 rfl f0_3.vec partV_row (getS p.held noPart (by first | omega | (simp only [List.length_cons, List.length_nil]; omega)))) rfl rfl rfl ?_
      refine W.ef rfl rfl rfl ?_
      refine Ef.allocA z33 ?_
      intro g3_2 w3_2 hg3_2 b3_2 h3_2
      have L1 := Ll0.le h3_2
      have b3_2 : Blk w3_2 g3_2 33 (partV noPart).toArray := b3_2
      refine W.ef0 rfl rfl ?_
      refine Ef.storeAll sz33 (by rfl) rfl rfl b3_2 (by rfl) (partV_row.one (p.held.getD k noPart)) ?_
      intro w3_3 b3_3 h3_3
      have b3_3 : Blk w3_3 g3_2 33 (partV (p.held.getD k noPart)).toArray := b3_3
      have L2 : ChP w w3_3 (fun k => k = gq ∨ k = gh) := L1.ch h3_3 (fun i hi hlt => by cases hi; exact absurd hlt (by have := Ll0.size; have := hg3_2; omega))
      refine W.nil ?_
      refine E.thenN ?_
      refine WC.draw [0, 1, 2, 3, 4, 5, 6, 7, 8, 9] mixed (by kernel_rfl) ?_
      intro w4 d4
      have L3 := L2.le d4
      refine G.any rfl rfl (.move rfl) rfl rfl rfl ?_
      refine G.any rfl rfl (.nilCheck rfl) rfl rfl rfl ?_
      refine G.any rfl rfl (.field0 fa117_1 rfl) rfl rfl rfl ?_
      have f4 := (((f0_0.le h3_2).ch h3_3 (fun h => (show g3_2 ≠ gp from by have := f0_0.lt; omega) (Option.some.inj h))).le d4)
      refine G.rd rfl rfl (.loadB (v := .map (some gh)) na115 rfl f4 rfl) rfl rfl rfl ?_
      refine G.any rfl rfl (.field0 fa33_0 rfl) rfl rfl rfl ?_
      have f5 := (b3_3.le d4)
      refine G.rd rfl rfl (.loadB (v := .int .i64 ((p.held.getD k noPart).ch)) na3 rfl f5 rfl) rfl rfl rfl ?_
      refine G.any rfl rfl (.field0 fa33_1 rfl) rfl rfl rfl ?_
      refine G.rd rfl rfl (.loadB (v := .int .i64 ((p.held.getD k noPart).id)) na3 rfl f5 rfl) rfl rfl rfl ?_
      refine G.any rfl rfl (.buildP (ckV ((p.held.getD k noPart).ch, (p.held.getD k noPart).id)) pl135 z135 rfl rfl) rfl rfl rfl ?_
      have f6 := (((f0_1.le h3_2).ch h3_3 (fun h => (show g3_2 ≠ gh from by have := f0_1.lt; omega) (Option.some.inj h))).le d4)
      refine G.ef0 rfl rfl rfl rfl ?_
      refine Ef.deleteG (key := ((p.held.getD k noPart).ch, (p.held.getD k noPart).id)) Try.underlying115 kcond rfl rfl f6 ?_
      intro w4_9 b4_9 h4_9
      refine ⟨fun h => absurd h (ne_true_of_eq_false (by kernel_rfl)), ?_⟩
      have L7 : ChP w w4_9 (fun k => k = gq ∨ k = gh) := L3.ch h4_9 (fun i hi _ => by cases hi; exact Or.inr rfl)
      refine G.nil ?_
      refine E.blkN ?_
      refine E.thenN ?_
      refine WC.region ?_
      refine W.any (.add rfl rfl (by omega)) rfl rfl rfl ?_
      refine W.any (.move rfl) rfl rfl rfl ?_
      refine W.nil ?_
      have f8 := (f4.ch h4_9 (fun h => (Ne.symm n2) (Option.some.inj h)))
      have f9 := ((((f0_2.le h3_2).ch h3_3 (fun h => (show g3_2 ≠ gq from by have := f0_2.lt; omega) (Option.some.inj h))).le d4).ch h4_9 (fun h => (Ne.symm n3) (Option.some.inj h)))
      have f10 := ((((f0_3.le h3_2).ch h3_3 (fun q hq => by cases hq; exact (fun he => by have := (f0_3.row he).2; omega))).le d4).ch h4_9 (fun q hq => by cases hq; exact n4))
      refine E.again (k + 1) (.cons rfl (.cons rfl (.cons rfl (.cons rfl (.cons rfl (.nil _)))))) ?_ ?_
      · exact ⟨by omega, L7, by have := sz0; have := h3_2.size; have := h3_3.size; have := d4.size; have := h4_9.size; omega, f8, (by rw [← delK_snoc p.held k (by have := hO.1; omega)]; exact b4_9), f9, f10⟩
      · first | omega | (simp only []; omega)
    · refine WC.condN rfl (decide_eq_false c0) ?_
      refine WC.exit ?_
      refine E.thenX ?_
      refine E.thenX ?_
      refine E.blkH ?_
      refine E.thenN ?_
      refine WC.seq ?_
      refine WC.region ?_
      refine W.any (.move rfl) rfl rfl rfl ?_
      refine W.any (.move rfl) rfl rfl rfl ?_
      refine W.any (.move rfl) rfl rfl rfl ?_
      refine W.any (.nilCheck rfl) rfl rfl rfl ?_
      refine W.any (.field0 fa126_4 rfl) rfl rfl rfl ?_
      refine W.rd (.loadB (v := .slice Aq nq cq) na46 rfl f0_2 rfl) rfl rfl rfl ?_
      refine W.any (.assign rfl) rfl rfl rfl ?_
      refine W.any (.nilCheck rfl) rfl rfl rfl ?_
      refine W.any (.field0 fa126_4 rfl) rfl rfl rfl ?_
      refine W.ef0 rfl rfl ?_
      refine Ef.store sz46 rfl rfl f0_2 (by first | decide | simp) (rfl) ?_
      intro w6_9 b6_9 h6_9
      have b6_9 : Blk w6_9 gq 126 #[.int .u64 (((p.sec : Nat) : Int)), .int .i64 (p.tot), .int .i64 (p.by_), .int .i64 (p.lst), .slice none 0 0, .int .i64 (p.sum), .bool (p.ovr), .bool (p.paid)] := b6_9
      have L11 : ChP w w6_9 (fun k => k = gq ∨ k = gh) := Ll0.ch h6_9 (fun i hi _ => by cases hi; exact Or.inl rfl)
      refine W.any (.nilCheck rfl) rfl rfl rfl ?_
      refine W.any (.field0 fa126_6 rfl) rfl rfl rfl ?_
      refine W.ef0 rfl rfl ?_
      refine Ef.store sz4 rfl rfl b6_9 (by first | decide | simp) (rfl) ?_
      intro w6_12 b6_12 h6_12
      have b6_12 : Blk w6_12 gq 126 #[.int .u64 (((p.sec : Nat) : Int)), .int .i64 (p.tot), .int .i64 (p.by_), .int .i64 (p.lst), .slice none 0 0, .int .i64 (p.sum), .bool true, .bool (p.paid)] := b6_12
      have L12 : ChP w w6_12 (fun k => k = gq ∨ k = gh) := L11.ch h6_12 (fun i hi _ => by cases hi; exact Or.inl rfl)
      refine W.nil ?_
      refine E.thenN ?_
      refine WC.seq ?_
      refine WC.region ?_
      refine W.any (.move rfl) rfl rfl rfl ?_
      refine W.any (.assign rfl) rfl rfl rfl ?_
      refine W.nil ?_
      refine E.thenN ?_
      refine WC.ret ?_
      have f13 := ((f0_1.ch h6_9 (fun h => n3 (Option.some.inj h))).ch h6_12 (fun h => n3 (Option.some.inj h)))
      refine E.retG1 rfl rfl ?_
      exact ⟨rfl, b6_12, (by have hk2 := hO.1; have e := f13; rw [List.take_of_length_le (by omega)] at e; exact e), L12⟩
end Go.Proofs.Ytfgakofjkldcjaa

namespace Go.Proofs.Ytfgakofjkldcjaa
open Go Go.Sx Go.Num
set_option maxRecDepth 20000
theorem dbl1 (D a n out : Nat) (h : n % 2 = 1) : ((out + a) % D + (a + a) % D * (n / 2)) % D = (out + a * n) % D := by
  have e : a * n = a + (a + a) * (n / 2) := by
    have hn2 : n = 2 * (n / 2) + 1 := by omega
    conv => lhs; rw [hn2]
    rw [Nat.mul_add, Nat.mul_one, ← Nat.mul_assoc, Nat.mul_two, Nat.add_comm]
  rw [e, ← Nat.add_assoc, Nat.add_mod, Nat.mod_mod, Nat.mul_mod, Nat.mod_mod, ← Nat.mul_mod, ← Nat.add_mod]
theorem dbl0 (D a n out : Nat) (h : ¬ n % 2 = 1) : (out + (a + a) % D * (n / 2)) % D = (out + a * n) % D := by
  have e : a * n = (a + a) * (n / 2) := by
    have hn2 : n = 2 * (n / 2) := by omega
    conv => lhs; rw [hn2]
    rw [← Nat.mul_assoc, Nat.mul_two]
  rw [e, Nat.add_mod, Nat.mul_mod, Nat.mod_mod, ← Nat.mul_mod, ← Nat.add_mod]
theorem dbl_end (D a out : Nat) (h : out < D) : (out + a * 0) % D = out := by rw [Nat.mul_zero, Nat.add_zero, Nat.mod_eq_of_lt h]
theorem rfright_ok (a : Nat) (w : World) : Calls Try.prog 61 #[.int .u64 ((a : Nat) : Int)] w fun e w' => e = .returned (.bool (decide (a < q))) ∧ Le w w' := by
  refine enter Try.func61 rfl rfl ?_
  have L0 := Le.refl w
  refine WC.seq ?_
  refine WC.region ?_
  refine W.any (.assign rfl) rfl rfl rfl ?_
  refine W.nil ?_
  refine E.thenN ?_
  refine WC.seq ?_
  refine WC.region ?_
  refine W.any (.move rfl) rfl rfl rfl ?_
  refine W.any (.lss rfl rfl) rfl rfl rfl ?_
  refine W.any (.assign rfl) rfl rfl rfl ?_
  refine W.nil ?_
  refine E.thenN ?_
  refine WC.ret ?_
  refine E.ret1 rfl rfl ?_
  exact ⟨congrArg (fun b => Ending.returned (Value.bool b)) (decide_eq_decide.2 (by rw [q_def]; omega)), L0⟩

theorem rof_ok (a : Nat) (w : World) : Calls Try.prog 121 #[.int .u64 ((a : Nat) : Int)] w fun e w' => e = .returned (.int .u64 ((a % q : Nat) : Int)) ∧ Le w w' := by
  refine enter Try.func121 rfl rfl ?_
  have L0 := Le.refl w
  refine WC.seq ?_
  refine WC.region ?_
  refine W.any (.assign rfl) rfl rfl rfl ?_
  refine W.nil ?_
  refine E.thenN ?_
  refine WC.seq ?_
  refine WC.region ?_
  refine W.any (.move rfl) rfl rfl rfl ?_
  refine W.any (.remN (a) (2305843009213688669) (a % 2305843009213688669) rfl rfl rfl rfl (by decide) (rfl)) rfl rfl rfl ?_
  refine W.any (.assign rfl) rfl rfl rfl ?_
  refine W.nil ?_
  refine E.thenN ?_
  refine WC.ret ?_
  refine E.ret1 rfl rfl ?_
  exact ⟨rfl, L0⟩



theorem rtimes_ok (a b : Nat) (ha : a < M) (hb : b < 18446744073709551616) (w : World) : Calls Try.prog 183 #[.int .u64 ((a : Nat) : Int), .int .u64 ((b : Nat) : Int)] w fun e w' => e = .returned (.int .u64 ((a * b % M : Nat) : Int)) ∧ Le w w' := by
  refine enter Try.func183 rfl rfl ?_
  have L0 := Le.refl w
  refine WC.seq ?_
  refine WC.region ?_
  refine W.any (.assign rfl) rfl rfl rfl ?_
  refine W.nil ?_
  refine E.thenN ?_
  refine WC.seq ?_
  refine WC.region ?_
  refine W.any (.assign rfl) rfl rfl rfl ?_
  refine W.nil ?_
  refine E.thenN ?_
  refine WC.seq ?_
  refine WC.block ?_
  refine WC.loop (ι := Nat × Nat × Nat) (fun ⟨x, y, out⟩ => [(0, .int .u64 ((x : Nat) : Int)), (1, .int .u64 ((y : Nat) : Int)), (5, .int .u64 ((out : Nat) : Int))]) (fun ⟨x, y, out⟩ wl => Le w wl ∧ x < 4611686018427377339 ∧ y < 18446744073709551616 ∧ out < 4611686018427377339 ∧ (out + x * y) % 4611686018427377339 = a * b % 4611686018427377339) (fun ⟨x, y, out⟩ => y) (a, b, 0) ?_ ?_ ?_
  · exact .cons rfl (.cons rfl (.cons rfl (.nil _)))
  · exact ⟨L0, ha, hb, by decide, by rw [Nat.zero_add]⟩
  · rintro ⟨x, y, out⟩ wl ⟨Ll, hx, hy, ho, hi⟩
    refine WC.seq ?_
    refine WC.seq ?_
    refine WC.region ?_
    refine W.any (.move rfl) rfl rfl rfl ?_
    refine W.any (.gtr rfl rfl) rfl rfl rfl ?_
    refine W.nil ?_
    refine E.thenN ?_
    refine WC.cond rfl (fun c0 => ?_) (fun c0 => ?_)
    · refine WC.skip ?_
      refine E.thenN ?_
      refine WC.block ?_
      refine WC.seq ?_
      refine WC.seq ?_
      refine WC.region ?_
      refine W.any (.move rfl) rfl rfl rfl ?_
      refine W.any (.remN (y) (2) (y % 2) rfl rfl rfl rfl (by decide) (rfl)) rfl rfl rfl ?_
      refine W.any (.eql rfl rfl) rfl rfl rfl ?_
      refine W.nil ?_
      refine E.thenN ?_
      refine WC.cond rfl (fun c1 => ?_) (fun c1 => ?_)
      · refine WC.region ?_
        refine W.any (.move rfl) rfl rfl rfl ?_
        refine W.any (.move rfl) rfl rfl rfl ?_
        refine W.any (.addN (out) (x) (out + x) rfl rfl rfl rfl (Nat.mod_eq_of_lt (by omega))) rfl rfl rfl ?_
        refine W.any (.remN (out + x) (4611686018427377339) ((out + x) % 4611686018427377339) rfl rfl rfl rfl (by decide) (rfl)) rfl rfl rfl ?_
        refine W.any (.assign rfl) rfl rfl rfl ?_
        refine W.nil ?_
        refine E.thenN ?_
        refine WC.seq ?_
        refine WC.region ?_
        refine W.any (.move rfl) rfl rfl rfl ?_
        refine W.any (.move rfl) rfl rfl rfl ?_
        refine W.any (.addN (x) (x) (x + x) rfl rfl rfl rfl (Nat.mod_eq_of_lt (by omega))) rfl rfl rfl ?_
        refine W.any (.remN (x + x) (4611686018427377339) ((x + x) % 4611686018427377339) rfl rfl rfl rfl (by decide) (rfl)) rfl rfl rfl ?_
        refine W.any (.assign rfl) rfl rfl rfl ?_
        refine W.nil ?_
        refine E.thenN ?_
        refine WC.region ?_
        refine W.any (.move rfl) rfl rfl rfl ?_
        refine W.any (.quoN (y) (2) (y / 2) rfl rfl rfl rfl (by omega) (by omega) (rfl)) rfl rfl rfl ?_
        refine W.any (.assign rfl) rfl rfl rfl ?_
        refine W.nil ?_
        refine E.blkN ?_
        refine E.again ((x + x) % 4611686018427377339, y / 2, (out + x) % 4611686018427377339) (.cons rfl (.cons rfl (.cons rfl (.nil _)))) ?_ ?_
        · exact ⟨Ll, Nat.mod_lt _ (by decide), by omega, Nat.mod_lt _ (by decide), by rw [dbl1 _ x y out (by omega)]; exact hi⟩
        · first | omega | (simp only []; omega)
      · refine WC.skip ?_
        refine E.thenN ?_
        refine WC.seq ?_
        refine WC.region ?_
        refine W.any (.move rfl) rfl rfl rfl ?_
        refine W.any (.move rfl) rfl rfl rfl ?_
        refine W.any (.addN (x) (x) (x + x) rfl rfl rfl rfl (Nat.mod_eq_of_lt (by omega))) rfl rfl rfl ?_
        refine W.any (.remN (x + x) (4611686018427377339) ((x + x) % 4611686018427377339) rfl rfl rfl rfl (by decide) (rfl)) rfl rfl rfl ?_
        refine W.any (.assign rfl) rfl rfl rfl ?_
        refine W.nil ?_
        refine E.thenN ?_
        refine WC.region ?_
        refine W.any (.move rfl) rfl rfl rfl ?_
        refine W.any (.quoN (y) (2) (y / 2) rfl rfl rfl rfl (by omega) (by omega) (rfl)) rfl rfl rfl ?_
        refine W.any (.assign rfl) rfl rfl rfl ?_
        refine W.nil ?_
        refine E.blkN ?_
        refine E.again ((x + x) % 4611686018427377339, y / 2, out) (.cons rfl (.cons rfl (.cons rfl (.nil _)))) ?_ ?_
        · exact ⟨Ll, Nat.mod_lt _ (by decide), by omega, ho, by rw [dbl0 _ x y out (by omega)]; exact hi⟩
        · first | omega | (simp only []; omega)
    · have hy0 : y = 0 := by omega
      subst hy0
      rw [dbl_end _ _ _ ho] at hi
      refine WC.exit ?_
      refine E.thenX ?_
      refine E.thenX ?_
      refine E.blkH ?_
      refine E.thenN ?_
      refine WC.seq ?_
      refine WC.region ?_
      refine W.any (.move rfl) rfl rfl rfl ?_
      refine W.any (.assign rfl) rfl rfl rfl ?_
      refine W.nil ?_
      refine E.thenN ?_
      refine WC.ret ?_
      refine E.ret1 rfl rfl ?_
      exact ⟨by rw [hi]; rfl, Ll⟩

theorem rpower_ok (a n : Nat) (ha : a < M) (hn : n < 18446744073709551616) (w : World) : Calls Try.prog 167 #[.int .u64 ((a : Nat) : Int), .int .u64 ((n : Nat) : Int)] w fun e w' => e = .returned (.int .u64 ((pw a n : Nat) : Int)) ∧ Le w w' := by
  refine enter Try.func167 rfl rfl ?_
  have L0 := Le.refl w
  refine WC.seq ?_
  refine WC.region ?_
  refine W.any (.assign rfl) rfl rfl rfl ?_
  refine W.nil ?_
  refine E.thenN ?_
  refine WC.seq ?_
  refine WC.region ?_
  refine W.any (.assign rfl) rfl rfl rfl ?_
  refine W.nil ?_
  refine E.thenN ?_
  refine WC.seq ?_
  refine WC.block ?_
  refine WC.loop (ι := Nat × Nat × Nat) (fun ⟨b, m, out⟩ => [(0, .int .u64 ((b : Nat) : Int)), (1, .int .u64 ((m : Nat) : Int)), (5, .int .u64 ((out : Nat) : Int))]) (fun ⟨b, m, out⟩ wl => Le w wl ∧ b < M ∧ m < 18446744073709551616 ∧ out < M ∧ out * b ^ m % M = pw a n) (fun ⟨b, m, out⟩ => m) (a, n, 1) ?_ ?_ ?_
  · exact .cons rfl (.cons rfl (.cons rfl (.nil _)))
  · exact ⟨L0, ha, hn, M_one, pw_start a n hn⟩
  · rintro ⟨b, m, out⟩ wl ⟨Ll, hb, hm, ho, hi⟩
    refine WC.seq ?_
    refine WC.seq ?_
    refine WC.region ?_
    refine W.any (.move rfl) rfl rfl rfl ?_
    refine W.any (.gtr rfl rfl) rfl rfl rfl ?_
    refine W.nil ?_
    refine E.thenN ?_
    refine WC.cond rfl (fun c0 => ?_) (fun c0 => ?_)
    · have hb2 : b < 18446744073709551616 := Nat.lt_trans hb (by decide)
      refine WC.skip ?_
      refine E.thenN ?_
      refine WC.block ?_
      refine WC.seq ?_
      refine WC.seq ?_
      refine WC.region ?_
      refine W.any (.move rfl) rfl rfl rfl ?_
      refine W.any (.remN (m) (2) (m % 2) rfl rfl rfl rfl (by decide) (rfl)) rfl rfl rfl ?_
      refine W.any (.eql rfl rfl) rfl rfl rfl ?_
      refine W.nil ?_
      refine E.thenN ?_
      refine WC.cond rfl (fun c1 => ?_) (fun c1 => ?_)
      · refine WC.region ?_
        refine W.any (.move rfl) rfl rfl rfl ?_
        refine W.any (.move rfl) rfl rfl rfl ?_
        refine W.ef rfl rfl rfl ?_
        refine Ef.call go183 rfl rfl (rtimes_ok out b ho hb2 wl) ?_
        rintro _ w4_2 ⟨rfl, h4_2⟩
        refine ⟨_, rfl, ?_⟩
        have L4_2 := Ll.trans h4_2
        refine W.any (.assign rfl) rfl rfl rfl ?_
        refine W.nil ?_
        refine E.thenN ?_
        refine WC.seq ?_
        refine WC.region ?_
        refine W.any (.move rfl) rfl rfl rfl ?_
        refine W.any (.move rfl) rfl rfl rfl ?_
        refine W.ef rfl rfl rfl ?_
        refine Ef.call go183 rfl rfl (rtimes_ok b b hb hb2 w4_2) ?_
        rintro _ w5_2 ⟨rfl, h5_2⟩
        refine ⟨_, rfl, ?_⟩
        have L5_2 := L4_2.trans h5_2
        refine W.any (.assign rfl) rfl rfl rfl ?_
        refine W.nil ?_
        refine E.thenN ?_
        refine WC.region ?_
        refine W.any (.move rfl) rfl rfl rfl ?_
        refine W.any (.quoN (m) (2) (m / 2) rfl rfl rfl rfl (by omega) (by omega) (rfl)) rfl rfl rfl ?_
        refine W.any (.assign rfl) rfl rfl rfl ?_
        refine W.nil ?_
        refine E.blkN ?_
        refine E.again (b * b % M, m / 2, out * b % M) (.cons rfl (.cons rfl (.cons rfl (.nil _)))) ?_ ?_
        · exact ⟨L5_2, Nat.mod_lt _ (by decide), by omega, Nat.mod_lt _ (by decide), by rw [step1 b m out (by omega)]; exact hi⟩
        · first | omega | (simp only []; omega)
      · refine WC.skip ?_
        refine E.thenN ?_
        refine WC.seq ?_
        refine WC.region ?_
        refine W.any (.move rfl) rfl rfl rfl ?_
        refine W.any (.move rfl) rfl rfl rfl ?_
        refine W.ef rfl rfl rfl ?_
        refine Ef.call go183 rfl rfl (rtimes_ok b b hb hb2 wl) ?_
        rintro _ w5_2 ⟨rfl, h5_2⟩
        refine ⟨_, rfl, ?_⟩
        have L5_2 := Ll.trans h5_2
        refine W.any (.assign rfl) rfl rfl rfl ?_
        refine W.nil ?_
        refine E.thenN ?_
        refine WC.region ?_
        refine W.any (.move rfl) rfl rfl rfl ?_
        refine W.any (.quoN (m) (2) (m / 2) rfl rfl rfl rfl (by omega) (by omega) (rfl)) rfl rfl rfl ?_
        refine W.any (.assign rfl) rfl rfl rfl ?_
        refine W.nil ?_
        refine E.blkN ?_
        refine E.again (b * b % M, m / 2, out) (.cons rfl (.cons rfl (.cons rfl (.nil _)))) ?_ ?_
        · exact ⟨L5_2, Nat.mod_lt _ (by decide), by omega, ho, by rw [step0 b m out (by omega)]; exact hi⟩
        · first | omega | (simp only []; omega)
    · have hm0 : m = 0 := by omega
      subst hm0
      rw [pw_end b out ho] at hi
      refine WC.exit ?_
      refine E.thenX ?_
      refine E.thenX ?_
      refine E.blkH ?_
      refine E.thenN ?_
      refine WC.seq ?_
      refine WC.region ?_
      refine W.any (.move rfl) rfl rfl rfl ?_
      refine W.any (.assign rfl) rfl rfl rfl ?_
      refine W.nil ?_
      refine E.thenN ?_
      refine WC.ret ?_
      refine E.ret1 rfl rfl ?_
      exact ⟨by rw [hi], Ll⟩

theorem rpright_ok (p : Nat) (hp : p < 18446744073709551616) (w : World) : Calls Try.prog 184 #[.int .u64 ((p : Nat) : Int)] w fun e w' => e = .returned (.bool (right p)) ∧ Le w w' := by
  refine enter Try.func184 rfl rfl ?_
  have L0 := Le.refl w
  refine WC.seq ?_
  refine WC.region ?_
  refine W.any (.assign rfl) rfl rfl rfl ?_
  refine W.nil ?_
  refine E.thenN ?_
  refine WC.seq ?_
  refine WC.region ?_
  refine W.any (.move rfl) rfl rfl rfl ?_
  by_cases h0 : 0 < p
  · refine W.any (.dec (.geq rfl rfl) (decide_eq_true (by omega))) rfl rfl rfl ?_
    refine W.any (.move rfl) rfl rfl rfl ?_
    refine W.rdg (Any.rd (.move rfl) _) rfl rfl rfl (rfl) rfl rfl ?_
    by_cases h1 : p < 4611686018427377339
    · refine W.rdg (Any.rd (.dec (.lss rfl rfl) (decide_eq_true (by omega))) _) rfl rfl rfl (rfl) rfl rfl ?_
      refine W.any (.pickT rfl rfl rfl) rfl rfl rfl ?_
      refine W.any (.move rfl) rfl rfl rfl ?_
      refine W.rdg (Any.rd (.move rfl) _) rfl rfl rfl (rfl) rfl rfl ?_
      refine W.efg rfl rfl rfl (rfl) rfl rfl ?_
      refine Ef.call go167 rfl rfl (rpower_ok p 2305843009213688669 h1 (by decide) w) ?_
      rintro _ w1_8 ⟨rfl, h1_8⟩
      refine ⟨_, rfl, ?_⟩
      have L1_8 := L0.trans h1_8
      refine W.rdg (Any.rd (.eql rfl rfl) _) rfl rfl rfl (rfl) rfl rfl ?_
      refine W.any (.pickT rfl rfl rfl) rfl rfl rfl ?_
      refine W.any (.assign rfl) rfl rfl rfl ?_
      refine W.nil ?_
      refine E.thenN ?_
      refine WC.ret ?_
      refine E.ret1 rfl rfl ?_
      exact ⟨by rw [right, decide_eq_true h0, decide_eq_true (show p < M from h1), Bool.true_and, Bool.true_and, ← dec1]; rfl, L1_8⟩
    · refine W.rdg (Any.rd (.dec (.lss rfl rfl) (decide_eq_false (by omega))) _) rfl rfl rfl (rfl) rfl rfl ?_
      refine W.any (.pickT rfl rfl rfl) rfl rfl rfl ?_
      refine W.any (.move rfl) rfl rfl rfl ?_
      refine W.skip rfl rfl rfl (rfl) rfl rfl ?_
      refine W.skip rfl rfl rfl (rfl) rfl rfl ?_
      refine W.skip rfl rfl rfl (rfl) rfl rfl ?_
      refine W.any (.pickF rfl rfl rfl) rfl rfl rfl ?_
      refine W.any (.assign rfl) rfl rfl rfl ?_
      refine W.nil ?_
      refine E.thenN ?_
      refine WC.ret ?_
      refine E.ret1 rfl rfl ?_
      exact ⟨by rw [right, decide_eq_false (show ¬ p < M from h1), Bool.and_false, Bool.false_and], L0⟩
  · refine W.any (.dec (.geq rfl rfl) (decide_eq_false (by omega))) rfl rfl rfl ?_
    refine W.any (.move rfl) rfl rfl rfl ?_
    refine W.skip rfl rfl rfl (rfl) rfl rfl ?_
    refine W.skip rfl rfl rfl (rfl) rfl rfl ?_
    refine W.any (.pickF rfl rfl rfl) rfl rfl rfl ?_
    refine W.any (.move rfl) rfl rfl rfl ?_
    refine W.skip rfl rfl rfl (rfl) rfl rfl ?_
    refine W.skip rfl rfl rfl (rfl) rfl rfl ?_
    refine W.skip rfl rfl rfl (rfl) rfl rfl ?_
    refine W.any (.pickF rfl rfl rfl) rfl rfl rfl ?_
    refine W.any (.assign rfl) rfl rfl rfl ?_
    refine W.nil ?_
    refine E.thenN ?_
    refine WC.ret ?_
    refine E.ret1 rfl rfl ?_
    exact ⟨by rw [right, decide_eq_false h0, Bool.false_and, Bool.false_and], L0⟩

theorem rtaken_ok (p : Nat) (hp : p < 18446744073709551616) (w : World) : Calls Try.prog 168 #[.int .u64 ((p : Nat) : Int)] w fun e w' => e = .returned (.int .u64 ((taken p : Nat) : Int)) ∧ Le w w' := by
  refine enter Try.func168 rfl rfl ?_
  have L0 := Le.refl w
  refine WC.seq ?_
  refine WC.region ?_
  refine W.any (.assign rfl) rfl rfl rfl ?_
  refine W.nil ?_
  refine E.thenN ?_
  refine WC.seq ?_
  refine WC.seq ?_
  refine WC.region ?_
  refine W.any (.move rfl) rfl rfl rfl ?_
  refine W.ef rfl rfl rfl ?_
  refine Ef.call go184 rfl rfl (rpright_ok p hp w) ?_
  rintro _ w1_1 ⟨rfl, h1_1⟩
  refine ⟨_, rfl, ?_⟩
  have L1_1 := L0.trans h1_1
  refine W.nil ?_
  refine E.thenN ?_
  refine WC.condB rfl (fun c0 => ?_) (fun c0 => ?_)
  · refine WC.seq ?_
    refine WC.region ?_
    refine W.any (.move rfl) rfl rfl rfl ?_
    refine W.any (.assign rfl) rfl rfl rfl ?_
    refine W.nil ?_
    refine E.thenN ?_
    refine WC.ret ?_
    refine E.thenR ?_
    refine E.ret1 rfl rfl ?_
    exact ⟨by rw [taken, if_pos c0], L1_1⟩
  · refine WC.skip ?_
    refine E.thenN ?_
    refine WC.seq ?_
    refine WC.region ?_
    refine W.any (.assign rfl) rfl rfl rfl ?_
    refine W.nil ?_
    refine E.thenN ?_
    refine WC.ret ?_
    refine E.ret1 rfl rfl ?_
    exact ⟨by rw [taken, if_neg (by rw [c0]; simp)]; rfl, L1_1⟩

theorem taken_M (p : Nat) : taken p < M := ((right_iff _).1 (right_taken p)).2.1

theorem rscale_ok (p k : Nat) (hp : p < 18446744073709551616) (w : World) : Calls Try.prog 148 #[.int .u64 ((p : Nat) : Int), .int .u64 ((k : Nat) : Int)] w fun e w' => e = .returned (.int .u64 ((scale p k : Nat) : Int)) ∧ Le w w' := by
  refine enter Try.func148 rfl rfl ?_
  have L0 := Le.refl w
  refine WC.seq ?_
  refine WC.region ?_
  refine W.any (.assign rfl) rfl rfl rfl ?_
  refine W.nil ?_
  refine E.thenN ?_
  refine WC.seq ?_
  refine WC.region ?_
  refine W.any (.move rfl) rfl rfl rfl ?_
  refine W.ef rfl rfl rfl ?_
  refine Ef.call go168 rfl rfl (rtaken_ok p hp w) ?_
  rintro _ w1_1 ⟨rfl, h1_1⟩
  refine ⟨_, rfl, ?_⟩
  have L1_1 := L0.trans h1_1
  refine W.any (.move rfl) rfl rfl rfl ?_
  refine W.any (.remN (k) (2305843009213688669) (k % 2305843009213688669) rfl rfl rfl rfl (by decide) (rfl)) rfl rfl rfl ?_
  refine W.ef rfl rfl rfl ?_
  refine Ef.call go167 rfl rfl (rpower_ok (taken p) (k % 2305843009213688669) (taken_M p) (by omega) w1_1) ?_
  rintro _ w1_4 ⟨rfl, h1_4⟩
  refine ⟨_, rfl, ?_⟩
  have L1_4 := L1_1.trans h1_4
  refine W.any (.assign rfl) rfl rfl rfl ?_
  refine W.nil ?_
  refine E.thenN ?_
  refine WC.ret ?_
  refine E.ret1 rfl rfl ?_
  exact ⟨rfl, L1_4⟩

theorem rbase_ok (k : Nat) (w : World) : Calls Try.prog 120 #[.int .u64 ((k : Nat) : Int)] w fun e w' => e = .returned (.int .u64 ((base k : Nat) : Int)) ∧ Le w w' := by
  refine enter Try.func120 rfl rfl ?_
  have L0 := Le.refl w
  refine WC.seq ?_
  refine WC.region ?_
  refine W.any (.assign rfl) rfl rfl rfl ?_
  refine W.nil ?_
  refine E.thenN ?_
  refine WC.seq ?_
  refine WC.region ?_
  refine W.any (.move rfl) rfl rfl rfl ?_
  refine W.ef rfl rfl rfl ?_
  refine Ef.call go148 rfl rfl (rscale_ok 4 k (by decide) w) ?_
  rintro _ w1_1 ⟨rfl, h1_1⟩
  refine ⟨_, rfl, ?_⟩
  have L1_1 := L0.trans h1_1
  refine W.any (.assign rfl) rfl rfl rfl ?_
  refine W.nil ?_
  refine E.thenN ?_
  refine WC.ret ?_
  refine E.ret1 rfl rfl ?_
  exact ⟨rfl, L1_1⟩


end Go.Proofs.Ytfgakofjkldcjaa

