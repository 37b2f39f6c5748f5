/- PartsApart: for every input the law answers true and leaves its arguments as they were. -/
import Derived.Test.YtfgakofjkldcjaaPartsApartA
import Derived.OrdersHeld
import Derived.WalkKit
import Derived.Deep.AppendSrc
import Derived.Deep.MidRow
import Derived.Laws.OwnMore
import Derived.WalkSpells
import Derived.ProofKit
import Derived.OpenShut
import Derived.ShutString
import Derived.ChangeOld
import Derived.Below
import Derived.Deep.Slices
import Derived.Lib.ConvBytes
import Derived.Lib.AppendZerosOnto
import Derived.Laws.StructEq
import Derived.Maps.RangeRun
import Derived.Laws.Pointers
import Derived.Test.YtfgakofjkldcjaaProg
import Derived.KernelRfl
import Derived.Lib.Mul64
import Derived.Test.YtfgakofjkldcjaaProg
import Derived.Shelf.SlIterI.Nil
import Derived.Shelf.SortM.Plain
import Derived.Shelf.SortM.SortNone
import Derived.Ground.GgzProg
import Derived.Ground.SlgmProg
import Derived.Test.YtfgakofjkldcjaaRows
namespace Go.Proofs.Ytfgakofjkldcjaa
open Go Go.Sx
set_option maxRecDepth 20000
theorem mul64_ok (x y : Nat) (hx : x < 18446744073709551616) (hy : y < 18446744073709551616) (w : World) : Calls Try.prog 157 #[.int .u64 ((x : Nat) : Int), .int .u64 ((y : Nat) : Int)] w fun e w' => e = .returned (.tuple #[.int .u64 ((x * y / 18446744073709551616 : Nat) : Int), .int .u64 ((x * y % 18446744073709551616 : Nat) : Int)]) ∧ Le w w' := by
  obtain ⟨h1, h2, h3, h4⟩ := Go.Lib.mul64_hi x y hx hy
  have h5 : x * y / 18446744073709551616 < 18446744073709551616 := by
    rw [Nat.div_lt_iff_lt_mul (by decide)]
    exact Nat.mul_lt_mul'' hx hy
  have ha := Go.Lib.half_mul_le (a := x / 4294967296) (b := y / 4294967296) (by omega) (by omega)
  have hb := Go.Lib.half_mul_le (a := x / 4294967296) (b := y % 4294967296) (by omega) (by omega)
  have hc := Go.Lib.half_mul_le (a := x % 4294967296) (b := y / 4294967296) (by omega) (by omega)
  refine enter Try.func157 rfl rfl ?_
  have L0 := Le.refl w
  refine WC.seq ?_
  refine WC.region ?_
  refine W.any (.assign rfl) rfl rfl rfl ?_
  refine W.any (.assign rfl) rfl rfl rfl ?_
  refine W.nil ?_
  refine E.thenN ?_
  refine WC.seq ?_
  refine WC.region ?_
  refine W.any (.move rfl) rfl rfl rfl ?_
  refine W.any (.andE (x) (4294967295) (x % 4294967296) rfl rfl rfl rfl (by omega) (by omega) (mask32 _)) rfl rfl rfl ?_
  refine W.any (.assign rfl) rfl rfl rfl ?_
  refine W.nil ?_
  refine E.thenN ?_
  refine WC.seq ?_
  refine WC.region ?_
  refine W.any (.move rfl) rfl rfl rfl ?_
  refine W.any (.shrE (x) (32) (x / 4294967296) rfl rfl rfl rfl (by decide) (rfl)) rfl rfl rfl ?_
  refine W.any (.assign rfl) rfl rfl rfl ?_
  refine W.nil ?_
  refine E.thenN ?_
  refine WC.seq ?_
  refine WC.region ?_
  refine W.any (.move rfl) rfl rfl rfl ?_
  refine W.any (.andE (y) (4294967295) (y % 4294967296) rfl rfl rfl rfl (by omega) (by omega) (mask32 _)) rfl rfl rfl ?_
  refine W.any (.assign rfl) rfl rfl rfl ?_
  refine W.nil ?_
  refine E.thenN ?_
  refine WC.seq ?_
  refine WC.region ?_
  refine W.any (.move rfl) rfl rfl rfl ?_
  refine W.any (.shrE (y) (32) (y / 4294967296) rfl rfl rfl rfl (by decide) (rfl)) rfl rfl rfl ?_
  refine W.any (.assign rfl) rfl rfl rfl ?_
  refine W.nil ?_
  refine E.thenN ?_
  refine WC.seq ?_
  refine WC.region ?_
  refine W.any (.move rfl) rfl rfl rfl ?_
  refine W.any (.move rfl) rfl rfl rfl ?_
  refine W.any (.mulN (x % 4294967296) (y % 4294967296) ((x % 4294967296) * (y % 4294967296)) rfl rfl rfl rfl (Nat.mod_eq_of_lt h1)) rfl rfl rfl ?_
  refine W.any (.assign rfl) rfl rfl rfl ?_
  refine W.nil ?_
  refine E.thenN ?_
  refine WC.seq ?_
  refine WC.region ?_
  refine W.any (.move rfl) rfl rfl rfl ?_
  refine W.any (.move rfl) rfl rfl rfl ?_
  refine W.any (.mulN (x / 4294967296) (y % 4294967296) ((x / 4294967296) * (y % 4294967296)) rfl rfl rfl rfl (Nat.mod_eq_of_lt (by omega))) rfl rfl rfl ?_
  refine W.any (.move rfl) rfl rfl rfl ?_
  refine W.any (.shrE ((x % 4294967296) * (y % 4294967296)) (32) ((x % 4294967296) * (y % 4294967296) / 4294967296) rfl rfl rfl rfl (by decide) (rfl)) rfl rfl rfl ?_
  refine W.any (.addN ((x / 4294967296) * (y % 4294967296)) ((x % 4294967296) * (y % 4294967296) / 4294967296) ((x / 4294967296) * (y % 4294967296) + (x % 4294967296) * (y % 4294967296) / 4294967296) rfl rfl rfl rfl (Nat.mod_eq_of_lt h2)) rfl rfl rfl ?_
  refine W.any (.assign rfl) rfl rfl rfl ?_
  refine W.nil ?_
  refine E.thenN ?_
  refine WC.seq ?_
  refine WC.region ?_
  refine W.any (.move rfl) rfl rfl rfl ?_
  refine W.any (.andE ((x / 4294967296) * (y % 4294967296) + (x % 4294967296) * (y % 4294967296) / 4294967296) (4294967295) (((x / 4294967296) * (y % 4294967296) + (x % 4294967296) * (y % 4294967296) / 4294967296) % 4294967296) rfl rfl rfl rfl (by omega) (by omega) (mask32 _)) rfl rfl rfl ?_
  refine W.any (.assign rfl) rfl rfl rfl ?_
  refine W.nil ?_
  refine E.thenN ?_
  refine WC.seq ?_
  refine WC.region ?_
  refine W.any (.move rfl) rfl rfl rfl ?_
  refine W.any (.shrE ((x / 4294967296) * (y % 4294967296) + (x % 4294967296) * (y % 4294967296) / 4294967296) (32) (((x / 4294967296) * (y % 4294967296) + (x % 4294967296) * (y % 4294967296) / 4294967296) / 4294967296) rfl rfl rfl rfl (by decide) (rfl)) rfl rfl rfl ?_
  refine W.any (.assign rfl) rfl rfl rfl ?_
  refine W.nil ?_
  refine E.thenN ?_
  refine WC.seq ?_
  refine WC.region ?_
  refine W.any (.move rfl) rfl rfl rfl ?_
  refine W.any (.move rfl) rfl rfl rfl ?_
  refine W.any (.move rfl) rfl rfl rfl ?_
  refine W.any (.mulN (x % 4294967296) (y / 4294967296) ((x % 4294967296) * (y / 4294967296)) rfl rfl rfl rfl (Nat.mod_eq_of_lt (by omega))) rfl rfl rfl ?_
  refine W.any (.addN (((x / 4294967296) * (y % 4294967296) + (x % 4294967296) * (y % 4294967296) / 4294967296) % 4294967296) ((x % 4294967296) * (y / 4294967296)) (((x / 4294967296) * (y % 4294967296) + (x % 4294967296) * (y % 4294967296) / 4294967296) % 4294967296 + (x % 4294967296) * (y / 4294967296)) rfl rfl rfl rfl (Nat.mod_eq_of_lt h3)) rfl rfl rfl ?_
  refine W.any (.assign rfl) rfl rfl rfl ?_
  refine W.nil ?_
  refine E.thenN ?_
  refine WC.seq ?_
  refine WC.region ?_
  refine W.any (.move rfl) rfl rfl rfl ?_
  refine W.any (.move rfl) rfl rfl rfl ?_
  refine W.any (.mulN (x / 4294967296) (y / 4294967296) ((x / 4294967296) * (y / 4294967296)) rfl rfl rfl rfl (Nat.mod_eq_of_lt (by omega))) rfl rfl rfl ?_
  refine W.any (.move rfl) rfl rfl rfl ?_
  refine W.any (.addN ((x / 4294967296) * (y / 4294967296)) (((x / 4294967296) * (y % 4294967296) + (x % 4294967296) * (y % 4294967296) / 4294967296) / 4294967296) ((x / 4294967296) * (y / 4294967296) + ((x / 4294967296) * (y % 4294967296) + (x % 4294967296) * (y % 4294967296) / 4294967296) / 4294967296) rfl rfl rfl rfl (Nat.mod_eq_of_lt (by omega))) rfl rfl rfl ?_
  refine W.any (.move rfl) rfl rfl rfl ?_
  refine W.any (.shrE (((x / 4294967296) * (y % 4294967296) + (x % 4294967296) * (y % 4294967296) / 4294967296) % 4294967296 + (x % 4294967296) * (y / 4294967296)) (32) ((((x / 4294967296) * (y % 4294967296) + (x % 4294967296) * (y % 4294967296) / 4294967296) % 4294967296 + (x % 4294967296) * (y / 4294967296)) / 4294967296) rfl rfl rfl rfl (by decide) (rfl)) rfl rfl rfl ?_
  refine W.any (.addN ((x / 4294967296) * (y / 4294967296) + ((x / 4294967296) * (y % 4294967296) + (x % 4294967296) * (y % 4294967296) / 4294967296) / 4294967296) ((((x / 4294967296) * (y % 4294967296) + (x % 4294967296) * (y % 4294967296) / 4294967296) % 4294967296 + (x % 4294967296) * (y / 4294967296)) / 4294967296) (x * y / 18446744073709551616) rfl rfl rfl rfl ((Nat.mod_eq_of_lt (by rw [h4]; exact h5)).trans h4)) rfl rfl rfl ?_
  refine W.any (.assign rfl) rfl rfl rfl ?_
  refine W.nil ?_
  refine E.thenN ?_
  refine WC.seq ?_
  refine WC.region ?_
  refine W.any (.move rfl) rfl rfl rfl ?_
  refine W.any (.move rfl) rfl rfl rfl ?_
  refine W.any (.mulN (x) (y) (x * y % 18446744073709551616) rfl rfl rfl rfl (rfl)) rfl rfl rfl ?_
  refine W.any (.assign rfl) rfl rfl rfl ?_
  refine W.nil ?_
  refine E.thenN ?_
  refine WC.ret ?_
  refine E.ret2 rfl rfl rfl ?_
  exact ⟨rfl, L0⟩

def tab8 : ByteArray := ⟨[0, 1, 2, 2, 3, 3, 3, 3, 4, 4, 4, 4, 4, 4, 4, 4, 5, 5, 5, 5, 5, 5, 5, 5, 5, 5, 5, 5, 5, 5, 5, 5, 6, 6, 6, 6, 6, 6, 6, 6, 6, 6, 6, 6, 6, 6, 6, 6, 6, 6, 6, 6, 6, 6, 6, 6, 6, 6, 6, 6, 6, 6, 6, 6, 7, 7, 7, 7, 7, 7, 7, 7, 7, 7, 7, 7, 7, 7, 7, 7, 7, 7, 7, 7, 7, 7, 7, 7, 7, 7, 7, 7, 7, 7, 7, 7, 7, 7, 7, 7, 7, 7, 7, 7, 7, 7, 7, 7, 7, 7, 7, 7, 7, 7, 7, 7, 7, 7, 7, 7, 7, 7, 7, 7, 7, 7, 7, 7, 8, 8, 8, 8, 8, 8, 8, 8, 8, 8, 8, 8, 8, 8, 8, 8, 8, 8, 8, 8, 8, 8, 8, 8, 8, 8, 8, 8, 8, 8, 8, 8, 8, 8, 8, 8, 8, 8, 8, 8, 8, 8, 8, 8, 8, 8, 8, 8, 8, 8, 8, 8, 8, 8, 8, 8, 8, 8, 8, 8, 8, 8, 8, 8, 8, 8, 8, 8, 8, 8, 8, 8, 8, 8, 8, 8, 8, 8, 8, 8, 8, 8, 8, 8, 8, 8, 8, 8, 8, 8, 8, 8, 8, 8, 8, 8, 8, 8, 8, 8, 8, 8, 8, 8, 8, 8, 8, 8, 8, 8, 8, 8, 8, 8, 8, 8, 8, 8, 8, 8, 8, 8, 8, 8, 8, 8, 8, 8].toArray⟩

theorem len8 : ∀ m, 16 ≤ m → m < 64 → tab8[m]? = some (if m < 32 then 5 else 6) := by
  have h : ∀ m : Fin 64, 16 ≤ m.val → tab8[m.val]? = some (if m.val < 32 then 5 else 6) := by decide +kernel
  exact fun m h1 h2 => h ⟨m, h2⟩ h1

theorem len64_ok (y : Nat) (h1 : 1152921504606846976 ≤ y) (h2 : y < 4611686018427387904) (w : World) : Calls Try.prog 179 #[.int .u64 ((y : Nat) : Int)] w fun e w' => e = .returned (.int .i64 (if y < 2305843009213693952 then 61 else 62)) ∧ Le w w' := by
  refine enter Try.func179 rfl rfl ?_
  have L0 := Le.refl w
  refine WC.seq ?_
  refine WC.region ?_
  refine W.any (.assign rfl) rfl rfl rfl ?_
  refine W.nil ?_
  refine E.thenN ?_
  refine WC.seq ?_
  refine WC.seq ?_
  refine WC.region ?_
  refine W.any (.move rfl) rfl rfl rfl ?_
  refine W.any (.geq rfl rfl) rfl rfl rfl ?_
  refine W.nil ?_
  refine E.thenN ?_
  refine WC.condB rfl (fun _ => ?_) (fun h => absurd h (by simp; omega))
  refine WC.seq ?_
  refine WC.region ?_
  refine W.any (.move rfl) rfl rfl rfl ?_
  refine W.any (.shrE (y) (32) (y / 4294967296) rfl rfl rfl rfl (by decide) (rfl)) rfl rfl rfl ?_
  refine W.any (.assign rfl) rfl rfl rfl ?_
  refine W.nil ?_
  refine E.thenN ?_
  refine WC.region ?_
  refine W.any (.assign rfl) rfl rfl rfl ?_
  refine W.nil ?_
  refine E.thenN ?_
  refine WC.seq ?_
  refine WC.seq ?_
  refine WC.region ?_
  refine W.any (.move rfl) rfl rfl rfl ?_
  refine W.any (.geq rfl rfl) rfl rfl rfl ?_
  refine W.nil ?_
  refine E.thenN ?_
  refine WC.condB rfl (fun _ => ?_) (fun h => absurd h (by simp; omega))
  refine WC.seq ?_
  refine WC.region ?_
  refine W.any (.move rfl) rfl rfl rfl ?_
  refine W.any (.shrE (y / 4294967296) (16) (y / 281474976710656) rfl rfl rfl rfl (by decide) (by omega)) rfl rfl rfl ?_
  refine W.any (.assign rfl) rfl rfl rfl ?_
  refine W.nil ?_
  refine E.thenN ?_
  refine WC.region ?_
  refine W.any (.move rfl) rfl rfl rfl ?_
  refine W.any (.add rfl rfl (by omega)) rfl rfl rfl ?_
  refine W.any (.assign rfl) rfl rfl rfl ?_
  refine W.nil ?_
  refine E.thenN ?_
  refine WC.seq ?_
  refine WC.seq ?_
  refine WC.region ?_
  refine W.any (.move rfl) rfl rfl rfl ?_
  refine W.any (.geq rfl rfl) rfl rfl rfl ?_
  refine W.nil ?_
  refine E.thenN ?_
  refine WC.condB rfl (fun _ => ?_) (fun h => absurd h (by simp; omega))
  refine WC.seq ?_
  refine WC.region ?_
  refine W.any (.move rfl) rfl rfl rfl ?_
  refine W.any (.shrE (y / 281474976710656) (8) (y / 72057594037927936) rfl rfl rfl rfl (by decide) (by omega)) rfl rfl rfl ?_
  refine W.any (.assign rfl) rfl rfl rfl ?_
  refine W.nil ?_
  refine E.thenN ?_
  refine WC.region ?_
  refine W.any (.move rfl) rfl rfl rfl ?_
  refine W.any (.add rfl rfl (by omega)) rfl rfl rfl ?_
  refine W.any (.assign rfl) rfl rfl rfl ?_
  refine W.nil ?_
  refine E.thenN ?_
  refine WC.seq ?_
  refine WC.region ?_
  refine W.any (.move rfl) rfl rfl rfl ?_
  refine W.any (.move rfl) rfl rfl rfl ?_
  refine W.rd (.toU8 (y / 72057594037927936) (isS Try.underlying29) Try.underlying5 rfl rfl) rfl rfl rfl ?_
  refine W.any (.idxStr (y / 72057594037927936) (if y / 72057594037927936 < 32 then 5 else 6) Try.underlying9 rfl rfl (by rw [BitVec.toNat_ofNat, Nat.mod_eq_of_lt (by omega)]) (len8 (y / 72057594037927936) (by omega) (by omega))) rfl rfl rfl ?_
  refine W.rd (.idI (isS Try.underlying5) Try.underlying3 rfl (IntWalk.i64_in _ (by split <;> decide))) rfl rfl rfl ?_
  refine W.any (.add rfl rfl (by split <;> decide)) rfl rfl rfl ?_
  refine W.any (.assign rfl) rfl rfl rfl ?_
  refine W.nil ?_
  refine E.thenN ?_
  refine WC.ret ?_
  refine E.ret1 rfl rfl ?_
  exact ⟨by congr 2; split <;> split <;> simp_all <;> omega, L0⟩

theorem lz64_ok (y : Nat) (h1 : 1152921504606846976 ≤ y) (h2 : y < 4611686018427387904) (w : World) : Calls Try.prog 181 #[.int .u64 ((y : Nat) : Int)] w fun e w' => e = .returned (.int .i64 (if y < 2305843009213693952 then 3 else 2)) ∧ Le w w' := by
  refine enter Try.func181 rfl rfl ?_
  have L0 := Le.refl w
  refine WC.seq ?_
  refine WC.region ?_
  refine W.any (.assign rfl) rfl rfl rfl ?_
  refine W.nil ?_
  refine E.thenN ?_
  refine WC.seq ?_
  refine WC.region ?_
  refine W.any (.move rfl) rfl rfl rfl ?_
  refine W.ef rfl rfl rfl ?_
  refine Ef.call go179 rfl rfl (len64_ok y h1 h2 w) ?_
  rintro _ w1_1 ⟨rfl, h1_1⟩
  refine ⟨_, rfl, ?_⟩
  have L1_1 := L0.trans h1_1
  refine W.any (.sub rfl rfl (by split <;> omega)) rfl rfl rfl ?_
  refine W.any (.assign rfl) rfl rfl rfl ?_
  refine W.nil ?_
  refine E.thenN ?_
  refine WC.ret ?_
  refine E.ret1 rfl rfl ?_
  exact ⟨by congr 2; split <;> rfl, L1_1⟩

theorem div64_ok2 (h l y : Nat) (h1 : 2305843009213693952 ≤ y) (h2 : y < 4611686018427387904) (hh : h < y) (hl : l < 18446744073709551616) (w : World) : Calls Try.prog 158 #[.int .u64 ((h : Nat) : Int), .int .u64 ((l : Nat) : Int), .int .u64 ((y : Nat) : Int)] w fun e w' => ∃ qq : Int, e = .returned (.tuple #[.int .u64 qq, .int .u64 (((h * 18446744073709551616 + l) % y : Nat) : Int)]) ∧ Le w w' := by
  obtain ⟨Y, hYd⟩ : ∃ Y, Y = y * 4 := ⟨_, rfl⟩
  obtain ⟨a, ha⟩ : ∃ a, a = Y / 4294967296 := ⟨_, rfl⟩
  obtain ⟨b, hb0⟩ : ∃ b, b = Y % 4294967296 := ⟨_, rfl⟩
  obtain ⟨U, hUd⟩ : ∃ U, U = h * 4 + l / 4611686018427387904 := ⟨_, rfl⟩
  obtain ⟨v, hv⟩ : ∃ v, v = l * 4 % 18446744073709551616 := ⟨_, rfl⟩
  obtain ⟨e1, he1⟩ : ∃ e1, e1 = v / 4294967296 := ⟨_, rfl⟩
  obtain ⟨e0, he0⟩ : ∃ e0, e0 = v % 4294967296 := ⟨_, rfl⟩
  have hY : Y = a * 4294967296 + b := by omega
  have hYlo : 9223372036854775808 ≤ Y := by omega
  have hYhi : Y < 18446744073709551616 := by omega
  have ha1 : 2147483648 ≤ a := by omega
  have ha2 : a < 4294967296 := by omega
  have hb1 : b < 4294967296 := by omega
  have hv2 : v < 18446744073709551616 := by omega
  have he12 : e1 < 4294967296 := by omega
  have he02 : e0 < 4294967296 := by omega
  have hU : U < Y := by omega
  obtain ⟨R, hR⟩ : ∃ R, R = (U * 4294967296 + e1) % Y := ⟨_, rfl⟩
  obtain ⟨Q1, hQ1⟩ : ∃ Q1, Q1 = (U * 4294967296 + e1) / Y := ⟨_, rfl⟩
  obtain ⟨Q2, hQ2⟩ : ∃ Q2, Q2 = (R * 4294967296 + e0) / Y := ⟨_, rfl⟩
  have hRY : R < Y := by rw [hR]; exact Nat.mod_lt _ (by omega)
  have hfin : (R * 4294967296 + e0) % Y / 2 ^ 2 = (h * 18446744073709551616 + l) % y := div_fin2 h l y Y U v e1 e0 R hYd hUd hv he1 he0 hR (by omega)
  have hlz : ∀ w, Calls Try.prog 181 #[.int .u64 ((y : Nat) : Int)] w (fun e w' => e = .returned (.int .i64 2) ∧ Le w w') := fun w => by
    have := lz64_ok y (by omega) (by omega) w
    rw [if_neg (by omega)] at this
    exact this
  refine enter Try.func158 rfl rfl ?_
  have L0 := Le.refl w
  refine WC.seq ?_
  refine WC.region ?_
  refine W.any (.assign rfl) rfl rfl rfl ?_
  refine W.any (.assign rfl) rfl rfl rfl ?_
  refine W.nil ?_
  refine E.thenN ?_
  refine WC.seq ?_
  refine WC.seq ?_
  refine WC.region ?_
  refine W.any (.move rfl) rfl rfl rfl ?_
  refine W.any (.eql rfl rfl) rfl rfl rfl ?_
  refine W.nil ?_
  refine E.thenN ?_
  refine WC.condB rfl (fun h => absurd h (by simp; omega)) (fun _ => ?_)
  refine WC.skip ?_
  refine E.thenN ?_
  refine WC.seq ?_
  refine WC.seq ?_
  refine WC.region ?_
  refine W.any (.move rfl) rfl rfl rfl ?_
  refine W.any (.move rfl) rfl rfl rfl ?_
  refine W.any (.leq rfl rfl) rfl rfl rfl ?_
  refine W.nil ?_
  refine E.thenN ?_
  refine WC.condB rfl (fun h => absurd h (by simp; omega)) (fun _ => ?_)
  refine WC.skip ?_
  refine E.thenN ?_
  refine WC.seq ?_
  refine WC.seq ?_
  refine WC.region ?_
  refine W.any (.move rfl) rfl rfl rfl ?_
  refine W.any (.eql rfl rfl) rfl rfl rfl ?_
  refine W.nil ?_
  refine E.thenN ?_
  refine WC.cond rfl (fun c2 => ?_) (fun c2 => ?_)
  · have h0 : h = 0 := by omega
    subst h0
    refine WC.seq ?_
    refine WC.draw [0, 1, 2, 3, 4, 5, 6, 7] mixed (by kernel_rfl) ?_
    intro w6 d6
    have L6 := L0.trans d6
    refine G.any rfl rfl (.move rfl) rfl rfl rfl ?_
    refine G.any rfl rfl (.move rfl) rfl rfl rfl ?_
    refine G.any rfl rfl (.quoN (l) (y) (l / y) rfl rfl rfl rfl (by omega) (by omega) (rfl)) rfl rfl rfl ?_
    refine G.any rfl rfl (.move rfl) rfl rfl rfl ?_
    refine G.any rfl rfl (.move rfl) rfl rfl rfl ?_
    refine G.any rfl rfl (.remN (l) (y) (l % y) rfl rfl rfl rfl (by omega) (rfl)) rfl rfl rfl ?_
    refine G.any rfl rfl (.assign rfl) rfl rfl rfl ?_
    refine G.any rfl rfl (.assign rfl) rfl rfl rfl ?_
    refine G.nil ?_
    refine E.thenN ?_
    refine WC.ret ?_
    refine E.thenR ?_
    refine E.ret2 rfl rfl rfl ?_
    exact ⟨_, by rw [Nat.zero_mul, Nat.zero_add], L6⟩
  · refine WC.skip ?_
    refine E.thenN ?_
    refine WC.seq ?_
    refine WC.region ?_
    refine W.any (.move rfl) rfl rfl rfl ?_
    refine W.ef rfl rfl rfl ?_
    refine Ef.call go181 rfl rfl (hlz w) ?_
    rintro _ w7_1 ⟨rfl, h7_1⟩
    refine ⟨_, rfl, ?_⟩
    have L7_1 := L0.trans h7_1
    refine W.rd (.idI (isS Try.underlying3) Try.underlying213 rfl (IntWalk.u64_in _ (by decide))) rfl rfl rfl ?_
    refine W.any (.assign rfl) rfl rfl rfl ?_
    refine W.nil ?_
    refine E.thenN ?_
    refine WC.seq ?_
    refine WC.region ?_
    refine W.any (.move rfl) rfl rfl rfl ?_
    refine W.any (.move rfl) rfl rfl rfl ?_
    refine W.any (.shlN (y) (2) (Y) rfl rfl rfl rfl (by decide) (by omega)) rfl rfl rfl ?_
    refine W.any (.assign rfl) rfl rfl rfl ?_
    refine W.nil ?_
    refine E.thenN ?_
    refine WC.seq ?_
    refine WC.region ?_
    refine W.any (.move rfl) rfl rfl rfl ?_
    refine W.any (.shrE (Y) (32) (a) rfl rfl rfl rfl (by decide) (by omega)) rfl rfl rfl ?_
    refine W.any (.assign rfl) rfl rfl rfl ?_
    refine W.nil ?_
    refine E.thenN ?_
    refine WC.seq ?_
    refine WC.region ?_
    refine W.any (.move rfl) rfl rfl rfl ?_
    refine W.any (.andE (Y) (4294967295) (b) rfl rfl rfl rfl (by omega) (by omega) ((mask32 _).trans hb0.symm)) rfl rfl rfl ?_
    refine W.any (.assign rfl) rfl rfl rfl ?_
    refine W.nil ?_
    refine E.thenN ?_
    refine WC.seq ?_
    refine WC.region ?_
    refine W.any (.move rfl) rfl rfl rfl ?_
    refine W.any (.move rfl) rfl rfl rfl ?_
    refine W.any (.shlN (h) (2) (h * 4) rfl rfl rfl rfl (by decide) (by omega)) rfl rfl rfl ?_
    refine W.any (.move rfl) rfl rfl rfl ?_
    refine W.any (.move rfl) rfl rfl rfl ?_
    refine W.any (.subN (64) (2) (62) rfl rfl rfl rfl (by decide) (by decide)) rfl rfl rfl ?_
    refine W.any (.shrE (l) (62) (l / 4611686018427387904) rfl rfl rfl rfl (by decide) (rfl)) rfl rfl rfl ?_
    refine W.any (.orE (h * 4) (l / 4611686018427387904) (U) rfl rfl rfl rfl (by omega) (by omega) (by rw [hUd, Nat.mul_comm h, show (4 : Nat) = 2 ^ 2 by decide]; exact (Nat.two_pow_add_eq_or_of_lt (by omega) _).symm)) rfl rfl rfl ?_
    refine W.any (.assign rfl) rfl rfl rfl ?_
    refine W.nil ?_
    refine E.thenN ?_
    refine WC.seq ?_
    refine WC.region ?_
    refine W.any (.move rfl) rfl rfl rfl ?_
    refine W.any (.move rfl) rfl rfl rfl ?_
    refine W.any (.shlN (l) (2) (v) rfl rfl rfl rfl (by decide) (hv.symm)) rfl rfl rfl ?_
    refine W.any (.assign rfl) rfl rfl rfl ?_
    refine W.nil ?_
    refine E.thenN ?_
    refine WC.seq ?_
    refine WC.region ?_
    refine W.any (.move rfl) rfl rfl rfl ?_
    refine W.any (.shrE (v) (32) (e1) rfl rfl rfl rfl (by decide) (by omega)) rfl rfl rfl ?_
    refine W.any (.assign rfl) rfl rfl rfl ?_
    refine W.nil ?_
    refine E.thenN ?_
    refine WC.seq ?_
    refine WC.region ?_
    refine W.any (.move rfl) rfl rfl rfl ?_
    refine W.any (.andE (v) (4294967295) (e0) rfl rfl rfl rfl (by omega) (by omega) ((mask32 _).trans he0.symm)) rfl rfl rfl ?_
    refine W.any (.assign rfl) rfl rfl rfl ?_
    refine W.nil ?_
    refine E.thenN ?_
    refine WC.seq ?_
    refine WC.region ?_
    refine W.any (.move rfl) rfl rfl rfl ?_
    refine W.any (.move rfl) rfl rfl rfl ?_
    refine W.any (.quoN (U) (a) (U / a) rfl rfl rfl rfl (by omega) (by omega) (rfl)) rfl rfl rfl ?_
    refine W.any (.assign rfl) rfl rfl rfl ?_
    refine W.nil ?_
    refine E.thenN ?_
    refine WC.seq ?_
    refine WC.region ?_
    refine W.any (.move rfl) rfl rfl rfl ?_
    refine W.any (.move rfl) rfl rfl rfl ?_
    refine W.any (.move rfl) rfl rfl rfl ?_
    refine W.any (.mulN (U / a) (a) (U / a * a) rfl rfl rfl rfl (Nat.mod_eq_of_lt (Nat.lt_of_le_of_lt (Nat.div_mul_le_self _ _) (by omega)))) rfl rfl rfl ?_
    refine W.any (.subN (U) (U / a * a) (U % a) rfl rfl rfl rfl (Nat.le_trans (Nat.div_mul_le_self _ _) (by omega)) (sub_div U a (by omega))) rfl rfl rfl ?_
    refine W.any (.assign rfl) rfl rfl rfl ?_
    refine W.nil ?_
    refine E.thenN ?_
    refine WC.cut (ι := Unit) (fun () => [(2, .int .u64 ((Y : Nat) : Int)), (8, .int .u64 (2 : Int)), (9, .int .u64 ((a : Nat) : Int)), (10, .int .u64 ((b : Nat) : Int)), (11, .int .u64 ((U : Nat) : Int)), (13, .int .u64 ((e1 : Nat) : Int)), (14, .int .u64 ((e0 : Nat) : Int)), (15, .int .u64 ((Q1 : Nat) : Int))]) (fun () wc15 => Le w wc15) ?_ ?_
    · refine WC.block ?_
      refine WC.loop (ι := Nat × Nat) (fun ⟨qh, rh⟩ => [(2, .int .u64 ((Y : Nat) : Int)), (8, .int .u64 (2 : Int)), (9, .int .u64 ((a : Nat) : Int)), (10, .int .u64 ((b : Nat) : Int)), (11, .int .u64 ((U : Nat) : Int)), (13, .int .u64 ((e1 : Nat) : Int)), (14, .int .u64 ((e0 : Nat) : Int)), (15, .int .u64 ((qh : Nat) : Int)), (16, .int .u64 ((rh : Nat) : Int))]) (fun ⟨qh, rh⟩ wl => Le w wl ∧ qh * a + rh = U ∧ Q1 ≤ qh ∧ rh < 4294967296 ∧ qh ≤ 4294967297) (fun ⟨qh, rh⟩ => qh) (U / a, U % a) ?_ ?_ ?_
      · exact .cons rfl (.cons rfl (.cons rfl (.cons rfl (.cons rfl (.cons rfl (.cons rfl (.cons rfl (.cons rfl (.nil _)))))))))
      · exact ⟨L7_1, by rw [Nat.mul_comm]; exact Nat.div_add_mod _ _, by rw [hQ1]; exact dig_start hY (by omega) hU (by omega), Nat.lt_of_lt_of_le (Nat.mod_lt _ (by omega)) (by omega), dig_first hY (by omega) (by omega) hU⟩
      · rintro ⟨qh, rh⟩ wl ⟨Ll, hi, hq, hr, hq2⟩
        refine WC.seq ?_
        refine WC.seq ?_
        refine WC.region ?_
        refine W.any (.move rfl) rfl rfl rfl ?_
        refine W.any (.geq rfl rfl) rfl rfl rfl ?_
        by_cases hb : 4294967296 ≤ qh
        · refine W.any (.move rfl) rfl rfl rfl ?_
          refine W.skip rfl rfl rfl (decide_eq_true (by omega)) rfl rfl ?_
          refine W.skip rfl rfl rfl (decide_eq_true (by omega)) rfl rfl ?_
          refine W.skip rfl rfl rfl (decide_eq_true (by omega)) rfl rfl ?_
          refine W.skip rfl rfl rfl (decide_eq_true (by omega)) rfl rfl ?_
          refine W.skip rfl rfl rfl (decide_eq_true (by omega)) rfl rfl ?_
          refine W.skip rfl rfl rfl (decide_eq_true (by omega)) rfl rfl ?_
          refine W.skip rfl rfl rfl (decide_eq_true (by omega)) rfl rfl ?_
          refine W.skip rfl rfl rfl (decide_eq_true (by omega)) rfl rfl ?_
          refine W.any (.pickT rfl (decide_eq_true (by omega)) rfl) rfl rfl rfl ?_
          have hgt : Q1 < qh := by rw [hQ1]; exact dig_gt hY hU (by omega) hi (by omega)
          have hd : qh * a = (qh - 1) * a + a := by rw [← Nat.succ_mul]; congr 1; omega
          have hinv : (qh - 1) * a + (rh + a) = U := by omega
          refine W.nil ?_
          refine E.thenN ?_
          refine WC.condT rfl ?_
          refine WC.skip ?_
          refine E.thenN ?_
          refine WC.block ?_
          refine WC.seq ?_
          refine WC.region ?_
          refine W.any (.move rfl) rfl rfl rfl ?_
          refine W.any (.subN (qh) (1) (qh - 1) rfl rfl rfl rfl (by omega) (by omega)) rfl rfl rfl ?_
          refine W.any (.assign rfl) rfl rfl rfl ?_
          refine W.nil ?_
          refine E.thenN ?_
          refine WC.seq ?_
          refine WC.region ?_
          refine W.any (.move rfl) rfl rfl rfl ?_
          refine W.any (.move rfl) rfl rfl rfl ?_
          refine W.any (.addN (rh) (a) (rh + a) rfl rfl rfl rfl (by omega)) rfl rfl rfl ?_
          refine W.any (.assign rfl) rfl rfl rfl ?_
          refine W.nil ?_
          refine E.thenN ?_
          refine WC.seq ?_
          refine WC.region ?_
          refine W.any (.move rfl) rfl rfl rfl ?_
          refine W.any (.geq rfl rfl) rfl rfl rfl ?_
          refine W.nil ?_
          refine E.thenN ?_
          refine WC.cond rfl (fun c4 => ?_) (fun c4 => ?_)
          · have hqe : qh - 1 = Q1 := Nat.le_antisymm (by rw [hQ1]; exact dig_brk hY (by omega) hb1 hinv (by omega) (by omega)) (by omega)
            refine WC.exit ?_
            refine E.blkX rfl ?_
            refine E.thenX ?_
            refine E.blkH ?_
            refine E.meet () (.cons rfl (.cons rfl (.cons rfl (.cons rfl (.cons rfl (.cons rfl (.cons rfl (.cons' rfl (int_eq (by rw [hqe])) (.nil _))))))))) ?_
            exact Ll
          · refine WC.skip ?_
            refine E.blkN ?_
            refine E.again (qh - 1, rh + a) (.cons rfl (.cons rfl (.cons rfl (.cons rfl (.cons rfl (.cons rfl (.cons rfl (.cons rfl (.cons rfl (.nil _)))))))))) ?_ ?_
            · exact ⟨Ll, hinv, by omega, by omega, by omega⟩
            · first | omega | (simp only []; omega)
        · refine W.any (.move rfl) rfl rfl rfl ?_
          refine W.rdg (Any.rd (.move rfl) _) rfl rfl rfl (decide_eq_false (by omega)) rfl rfl ?_
          refine W.rdg (Any.rd (.move rfl) _) rfl rfl rfl (decide_eq_false (by omega)) rfl rfl ?_
          have hqb : qh * b < 18446744073709551616 := Nat.lt_of_le_of_lt (Nat.mul_le_mul (show qh ≤ 4294967295 by omega) (show b ≤ 4294967295 by omega)) (by decide)
          refine W.rdg (Any.rd (.mulN (qh) (b) (qh * b) rfl rfl rfl rfl (Nat.mod_eq_of_lt hqb)) _) rfl rfl rfl (decide_eq_false (by omega)) rfl rfl ?_
          refine W.rdg (Any.rd (.move rfl) _) rfl rfl rfl (decide_eq_false (by omega)) rfl rfl ?_
          refine W.rdg (Any.rd (.mulN (4294967296) (rh) (4294967296 * rh) rfl rfl rfl rfl (by omega)) _) rfl rfl rfl (decide_eq_false (by omega)) rfl rfl ?_
          refine W.rdg (Any.rd (.move rfl) _) rfl rfl rfl (decide_eq_false (by omega)) rfl rfl ?_
          refine W.rdg (Any.rd (.addN (4294967296 * rh) (e1) (4294967296 * rh + e1) rfl rfl rfl rfl (by omega)) _) rfl rfl rfl (decide_eq_false (by omega)) rfl rfl ?_
          refine W.rdg (Any.rd (.gtr rfl rfl) _) rfl rfl rfl (decide_eq_false (by omega)) rfl rfl ?_
          refine W.any (.pickF rfl (decide_eq_false (by omega)) rfl) rfl rfl rfl ?_
          refine W.nil ?_
          refine E.thenN ?_
          refine WC.cond rfl (fun c3 => ?_) (fun c3 => ?_)
          · have hgt : Q1 < qh := by rw [hQ1]; exact dig_gt hY hU (by omega) hi (by omega)
            have hd : qh * a = (qh - 1) * a + a := by rw [← Nat.succ_mul]; congr 1; omega
            have hinv : (qh - 1) * a + (rh + a) = U := by omega
            refine WC.skip ?_
            refine E.thenN ?_
            refine WC.block ?_
            refine WC.seq ?_
            refine WC.region ?_
            refine W.any (.move rfl) rfl rfl rfl ?_
            refine W.any (.subN (qh) (1) (qh - 1) rfl rfl rfl rfl (by omega) (by omega)) rfl rfl rfl ?_
            refine W.any (.assign rfl) rfl rfl rfl ?_
            refine W.nil ?_
            refine E.thenN ?_
            refine WC.seq ?_
            refine WC.region ?_
            refine W.any (.move rfl) rfl rfl rfl ?_
            refine W.any (.move rfl) rfl rfl rfl ?_
            refine W.any (.addN (rh) (a) (rh + a) rfl rfl rfl rfl (by omega)) rfl rfl rfl ?_
            refine W.any (.assign rfl) rfl rfl rfl ?_
            refine W.nil ?_
            refine E.thenN ?_
            refine WC.seq ?_
            refine WC.region ?_
            refine W.any (.move rfl) rfl rfl rfl ?_
            refine W.any (.geq rfl rfl) rfl rfl rfl ?_
            refine W.nil ?_
            refine E.thenN ?_
            refine WC.cond rfl (fun c4 => ?_) (fun c4 => ?_)
            · have hqe : qh - 1 = Q1 := Nat.le_antisymm (by rw [hQ1]; exact dig_brk hY (by omega) hb1 hinv (by omega) (by omega)) (by omega)
              refine WC.exit ?_
              refine E.blkX rfl ?_
              refine E.thenX ?_
              refine E.blkH ?_
              refine E.meet () (.cons rfl (.cons rfl (.cons rfl (.cons rfl (.cons rfl (.cons rfl (.cons rfl (.cons' rfl (int_eq (by rw [hqe])) (.nil _))))))))) ?_
              exact Ll
            · refine WC.skip ?_
              refine E.blkN ?_
              refine E.again (qh - 1, rh + a) (.cons rfl (.cons rfl (.cons rfl (.cons rfl (.cons rfl (.cons rfl (.cons rfl (.cons rfl (.cons rfl (.nil _)))))))))) ?_ ?_
              · exact ⟨Ll, hinv, by omega, by omega, by omega⟩
              · first | omega | (simp only []; omega)
          · have hqe : qh = Q1 := Nat.le_antisymm (by rw [hQ1]; exact dig_le hY (by omega) hi (by omega)) hq
            refine WC.exit ?_
            refine E.thenX ?_
            refine E.thenX ?_
            refine E.blkH ?_
            refine E.meet () (.cons rfl (.cons rfl (.cons rfl (.cons rfl (.cons rfl (.cons rfl (.cons rfl (.cons' rfl (int_eq (by rw [hqe])) (.nil _))))))))) ?_
            exact Ll
    · rintro ⟨⟩ wc15 Lc15
      refine WC.seq ?_
      refine WC.region ?_
      refine W.any (.move rfl) rfl rfl rfl ?_
      refine W.any (.mulN (U) (4294967296) (U * 4294967296 % 18446744073709551616) rfl rfl rfl rfl (rfl)) rfl rfl rfl ?_
      refine W.any (.move rfl) rfl rfl rfl ?_
      refine W.any (.addN (U * 4294967296 % 18446744073709551616) (e1) ((U * 4294967296 + e1) % 18446744073709551616) rfl rfl rfl rfl (by rw [Nat.mod_add_mod])) rfl rfl rfl ?_
      refine W.any (.move rfl) rfl rfl rfl ?_
      refine W.any (.move rfl) rfl rfl rfl ?_
      refine W.any (.mulN (Q1) (Y) (Q1 * Y % 18446744073709551616) rfl rfl rfl rfl (rfl)) rfl rfl rfl ?_
      refine W.any (.subN ((U * 4294967296 + e1) % 18446744073709551616) (Q1 * Y % 18446744073709551616) (R) rfl rfl rfl rfl (Nat.le_of_lt (Nat.mod_lt _ (by decide))) ((dig_rest Y _ _ hQ1 (by omega) (by omega)).trans hR.symm)) rfl rfl rfl ?_
      refine W.any (.assign rfl) rfl rfl rfl ?_
      refine W.nil ?_
      refine E.thenN ?_
      refine WC.seq ?_
      refine WC.region ?_
      refine W.any (.move rfl) rfl rfl rfl ?_
      refine W.any (.move rfl) rfl rfl rfl ?_
      refine W.any (.quoN (R) (a) (R / a) rfl rfl rfl rfl (by omega) (by omega) (rfl)) rfl rfl rfl ?_
      refine W.any (.assign rfl) rfl rfl rfl ?_
      refine W.nil ?_
      refine E.thenN ?_
      refine WC.seq ?_
      refine WC.region ?_
      refine W.any (.move rfl) rfl rfl rfl ?_
      refine W.any (.move rfl) rfl rfl rfl ?_
      refine W.any (.move rfl) rfl rfl rfl ?_
      refine W.any (.mulN (R / a) (a) (R / a * a) rfl rfl rfl rfl (Nat.mod_eq_of_lt (Nat.lt_of_le_of_lt (Nat.div_mul_le_self _ _) (by omega)))) rfl rfl rfl ?_
      refine W.any (.subN (R) (R / a * a) (R % a) rfl rfl rfl rfl (Nat.le_trans (Nat.div_mul_le_self _ _) (by omega)) (sub_div R a (by omega))) rfl rfl rfl ?_
      refine W.any (.assign rfl) rfl rfl rfl ?_
      refine W.nil ?_
      refine E.thenN ?_
      refine WC.cut (ι := Unit) (fun () => [(2, .int .u64 ((Y : Nat) : Int)), (8, .int .u64 (2 : Int)), (9, .int .u64 ((a : Nat) : Int)), (10, .int .u64 ((b : Nat) : Int)), (14, .int .u64 ((e0 : Nat) : Int)), (17, .int .u64 ((R : Nat) : Int)), (15, .int .u64 ((Q1 : Nat) : Int)), (18, .int .u64 ((Q2 : Nat) : Int))]) (fun () wc18 => Le w wc18) ?_ ?_
      · refine WC.block ?_
        refine WC.loop (ι := Nat × Nat) (fun ⟨qh, rh⟩ => [(2, .int .u64 ((Y : Nat) : Int)), (8, .int .u64 (2 : Int)), (9, .int .u64 ((a : Nat) : Int)), (10, .int .u64 ((b : Nat) : Int)), (14, .int .u64 ((e0 : Nat) : Int)), (17, .int .u64 ((R : Nat) : Int)), (15, .int .u64 ((Q1 : Nat) : Int)), (18, .int .u64 ((qh : Nat) : Int)), (16, .int .u64 ((rh : Nat) : Int))]) (fun ⟨qh, rh⟩ wl => Le w wl ∧ qh * a + rh = R ∧ Q2 ≤ qh ∧ rh < 4294967296 ∧ qh ≤ 4294967297) (fun ⟨qh, rh⟩ => qh) (R / a, R % a) ?_ ?_ ?_
        · exact .cons rfl (.cons rfl (.cons rfl (.cons rfl (.cons rfl (.cons rfl (.cons rfl (.cons rfl (.cons rfl (.nil _)))))))))
        · exact ⟨Lc15, by rw [Nat.mul_comm]; exact Nat.div_add_mod _ _, by rw [hQ2]; exact dig_start hY (by omega) hRY (by omega), Nat.lt_of_lt_of_le (Nat.mod_lt _ (by omega)) (by omega), dig_first hY (by omega) (by omega) hRY⟩
        · rintro ⟨qh, rh⟩ wl ⟨Ll, hi, hq, hr, hq2⟩
          refine WC.seq ?_
          refine WC.seq ?_
          refine WC.region ?_
          refine W.any (.move rfl) rfl rfl rfl ?_
          refine W.any (.geq rfl rfl) rfl rfl rfl ?_
          by_cases hb : 4294967296 ≤ qh
          · refine W.any (.move rfl) rfl rfl rfl ?_
            refine W.skip rfl rfl rfl (decide_eq_true (by omega)) rfl rfl ?_
            refine W.skip rfl rfl rfl (decide_eq_true (by omega)) rfl rfl ?_
            refine W.skip rfl rfl rfl (decide_eq_true (by omega)) rfl rfl ?_
            refine W.skip rfl rfl rfl (decide_eq_true (by omega)) rfl rfl ?_
            refine W.skip rfl rfl rfl (decide_eq_true (by omega)) rfl rfl ?_
            refine W.skip rfl rfl rfl (decide_eq_true (by omega)) rfl rfl ?_
            refine W.skip rfl rfl rfl (decide_eq_true (by omega)) rfl rfl ?_
            refine W.skip rfl rfl rfl (decide_eq_true (by omega)) rfl rfl ?_
            refine W.any (.pickT rfl (decide_eq_true (by omega)) rfl) rfl rfl rfl ?_
            have hgt : Q2 < qh := by rw [hQ2]; exact dig_gt hY hRY (by omega) hi (by omega)
            have hd : qh * a = (qh - 1) * a + a := by rw [← Nat.succ_mul]; congr 1; omega
            have hinv : (qh - 1) * a + (rh + a) = R := by omega
            refine W.nil ?_
            refine E.thenN ?_
            refine WC.condT rfl ?_
            refine WC.skip ?_
            refine E.thenN ?_
            refine WC.block ?_
            refine WC.seq ?_
            refine WC.region ?_
            refine W.any (.move rfl) rfl rfl rfl ?_
            refine W.any (.subN (qh) (1) (qh - 1) rfl rfl rfl rfl (by omega) (by omega)) rfl rfl rfl ?_
            refine W.any (.assign rfl) rfl rfl rfl ?_
            refine W.nil ?_
            refine E.thenN ?_
            refine WC.seq ?_
            refine WC.region ?_
            refine W.any (.move rfl) rfl rfl rfl ?_
            refine W.any (.move rfl) rfl rfl rfl ?_
            refine W.any (.addN (rh) (a) (rh + a) rfl rfl rfl rfl (by omega)) rfl rfl rfl ?_
            refine W.any (.assign rfl) rfl rfl rfl ?_
            refine W.nil ?_
            refine E.thenN ?_
            refine WC.seq ?_
            refine WC.region ?_
            refine W.any (.move rfl) rfl rfl rfl ?_
            refine W.any (.geq rfl rfl) rfl rfl rfl ?_
            refine W.nil ?_
            refine E.thenN ?_
            refine WC.cond rfl (fun c6 => ?_) (fun c6 => ?_)
            · have hqe : qh - 1 = Q2 := Nat.le_antisymm (by rw [hQ2]; exact dig_brk hY (by omega) hb1 hinv (by omega) (by omega)) (by omega)
              refine WC.exit ?_
              refine E.blkX rfl ?_
              refine E.thenX ?_
              refine E.blkH ?_
              refine E.meet () (.cons rfl (.cons rfl (.cons rfl (.cons rfl (.cons rfl (.cons rfl (.cons rfl (.cons' rfl (int_eq (by rw [hqe])) (.nil _))))))))) ?_
              exact Ll
            · refine WC.skip ?_
              refine E.blkN ?_
              refine E.again (qh - 1, rh + a) (.cons rfl (.cons rfl (.cons rfl (.cons rfl (.cons rfl (.cons rfl (.cons rfl (.cons rfl (.cons rfl (.nil _)))))))))) ?_ ?_
              · exact ⟨Ll, hinv, by omega, by omega, by omega⟩
              · first | omega | (simp only []; omega)
          · refine W.any (.move rfl) rfl rfl rfl ?_
            refine W.rdg (Any.rd (.move rfl) _) rfl rfl rfl (decide_eq_false (by omega)) rfl rfl ?_
            refine W.rdg (Any.rd (.move rfl) _) rfl rfl rfl (decide_eq_false (by omega)) rfl rfl ?_
            have hqb : qh * b < 18446744073709551616 := Nat.lt_of_le_of_lt (Nat.mul_le_mul (show qh ≤ 4294967295 by omega) (show b ≤ 4294967295 by omega)) (by decide)
            refine W.rdg (Any.rd (.mulN (qh) (b) (qh * b) rfl rfl rfl rfl (Nat.mod_eq_of_lt hqb)) _) rfl rfl rfl (decide_eq_false (by omega)) rfl rfl ?_
            refine W.rdg (Any.rd (.move rfl) _) rfl rfl rfl (decide_eq_false (by omega)) rfl rfl ?_
            refine W.rdg (Any.rd (.mulN (4294967296) (rh) (4294967296 * rh) rfl rfl rfl rfl (by omega)) _) rfl rfl rfl (decide_eq_false (by omega)) rfl rfl ?_
            refine W.rdg (Any.rd (.move rfl) _) rfl rfl rfl (decide_eq_false (by omega)) rfl rfl ?_
            refine W.rdg (Any.rd (.addN (4294967296 * rh) (e0) (4294967296 * rh + e0) rfl rfl rfl rfl (by omega)) _) rfl rfl rfl (decide_eq_false (by omega)) rfl rfl ?_
            refine W.rdg (Any.rd (.gtr rfl rfl) _) rfl rfl rfl (decide_eq_false (by omega)) rfl rfl ?_
            refine W.any (.pickF rfl (decide_eq_false (by omega)) rfl) rfl rfl rfl ?_
            refine W.nil ?_
            refine E.thenN ?_
            refine WC.cond rfl (fun c5 => ?_) (fun c5 => ?_)
            · have hgt : Q2 < qh := by rw [hQ2]; exact dig_gt hY hRY (by omega) hi (by omega)
              have hd : qh * a = (qh - 1) * a + a := by rw [← Nat.succ_mul]; congr 1; omega
              have hinv : (qh - 1) * a + (rh + a) = R := by omega
              refine WC.skip ?_
              refine E.thenN ?_
              refine WC.block ?_
              refine WC.seq ?_
              refine WC.region ?_
              refine W.any (.move rfl) rfl rfl rfl ?_
              refine W.any (.subN (qh) (1) (qh - 1) rfl rfl rfl rfl (by omega) (by omega)) rfl rfl rfl ?_
              refine W.any (.assign rfl) rfl rfl rfl ?_
              refine W.nil ?_
              refine E.thenN ?_
              refine WC.seq ?_
              refine WC.region ?_
              refine W.any (.move rfl) rfl rfl rfl ?_
              refine W.any (.move rfl) rfl rfl rfl ?_
              refine W.any (.addN (rh) (a) (rh + a) rfl rfl rfl rfl (by omega)) rfl rfl rfl ?_
              refine W.any (.assign rfl) rfl rfl rfl ?_
              refine W.nil ?_
              refine E.thenN ?_
              refine WC.seq ?_
              refine WC.region ?_
              refine W.any (.move rfl) rfl rfl rfl ?_
              refine W.any (.geq rfl rfl) rfl rfl rfl ?_
              refine W.nil ?_
              refine E.thenN ?_
              refine WC.cond rfl (fun c6 => ?_) (fun c6 => ?_)
              · have hqe : qh - 1 = Q2 := Nat.le_antisymm (by rw [hQ2]; exact dig_brk hY (by omega) hb1 hinv (by omega) (by omega)) (by omega)
                refine WC.exit ?_
                refine E.blkX rfl ?_
                refine E.thenX ?_
                refine E.blkH ?_
                refine E.meet () (.cons rfl (.cons rfl (.cons rfl (.cons rfl (.cons rfl (.cons rfl (.cons rfl (.cons' rfl (int_eq (by rw [hqe])) (.nil _))))))))) ?_
                exact Ll
              · refine WC.skip ?_
                refine E.blkN ?_
                refine E.again (qh - 1, rh + a) (.cons rfl (.cons rfl (.cons rfl (.cons rfl (.cons rfl (.cons rfl (.cons rfl (.cons rfl (.cons rfl (.nil _)))))))))) ?_ ?_
                · exact ⟨Ll, hinv, by omega, by omega, by omega⟩
                · first | omega | (simp only []; omega)
            · have hqe : qh = Q2 := Nat.le_antisymm (by rw [hQ2]; exact dig_le hY (by omega) hi (by omega)) hq
              refine WC.exit ?_
              refine E.thenX ?_
              refine E.thenX ?_
              refine E.blkH ?_
              refine E.meet () (.cons rfl (.cons rfl (.cons rfl (.cons rfl (.cons rfl (.cons rfl (.cons rfl (.cons' rfl (int_eq (by rw [hqe])) (.nil _))))))))) ?_
              exact Ll
      · rintro ⟨⟩ wc18 Lc18
        refine WC.seq ?_
        refine WC.region ?_
        refine W.any (.move rfl) rfl rfl rfl ?_
        refine W.any (.mulN (Q1) (4294967296) (Q1 * 4294967296 % 18446744073709551616) rfl rfl rfl rfl (rfl)) rfl rfl rfl ?_
        refine W.any (.move rfl) rfl rfl rfl ?_
        refine W.any (.addN (Q1 * 4294967296 % 18446744073709551616) (Q2) ((Q1 * 4294967296 % 18446744073709551616 + Q2) % 18446744073709551616) rfl rfl rfl rfl (rfl)) rfl rfl rfl ?_
        refine W.any (.move rfl) rfl rfl rfl ?_
        refine W.any (.mulN (R) (4294967296) (R * 4294967296 % 18446744073709551616) rfl rfl rfl rfl (rfl)) rfl rfl rfl ?_
        refine W.any (.move rfl) rfl rfl rfl ?_
        refine W.any (.addN (R * 4294967296 % 18446744073709551616) (e0) ((R * 4294967296 + e0) % 18446744073709551616) rfl rfl rfl rfl (by rw [Nat.mod_add_mod])) rfl rfl rfl ?_
        refine W.any (.move rfl) rfl rfl rfl ?_
        refine W.any (.move rfl) rfl rfl rfl ?_
        refine W.any (.mulN (Q2) (Y) (Q2 * Y % 18446744073709551616) rfl rfl rfl rfl (rfl)) rfl rfl rfl ?_
        refine W.any (.subN ((R * 4294967296 + e0) % 18446744073709551616) (Q2 * Y % 18446744073709551616) ((R * 4294967296 + e0) % Y) rfl rfl rfl rfl (Nat.le_of_lt (Nat.mod_lt _ (by decide))) (dig_rest Y _ _ hQ2 (by omega) (by omega))) rfl rfl rfl ?_
        refine W.any (.move rfl) rfl rfl rfl ?_
        refine W.any (.shrE ((R * 4294967296 + e0) % Y) (2) ((h * 18446744073709551616 + l) % y) rfl rfl rfl rfl (by decide) (hfin)) rfl rfl rfl ?_
        refine W.any (.assign rfl) rfl rfl rfl ?_
        refine W.any (.assign rfl) rfl rfl rfl ?_
        refine W.nil ?_
        refine E.thenN ?_
        refine WC.ret ?_
        refine E.ret2 rfl rfl rfl ?_
        exact ⟨_, rfl, Lc18⟩

theorem div64_ok3 (h l y : Nat) (h1 : 1152921504606846976 ≤ y) (h2 : y < 2305843009213693952) (hh : h < y) (hl : l < 18446744073709551616) (w : World) : Calls Try.prog 158 #[.int .u64 ((h : Nat) : Int), .int .u64 ((l : Nat) : Int), .int .u64 ((y : Nat) : Int)] w fun e w' => ∃ qq : Int, e = .returned (.tuple #[.int .u64 qq, .int .u64 (((h * 18446744073709551616 + l) % y : Nat) : Int)]) ∧ Le w w' := by
  obtain ⟨Y, hYd⟩ : ∃ Y, Y = y * 8 := ⟨_, rfl⟩
  obtain ⟨a, ha⟩ : ∃ a, a = Y / 4294967296 := ⟨_, rfl⟩
  obtain ⟨b, hb0⟩ : ∃ b, b = Y % 4294967296 := ⟨_, rfl⟩
  obtain ⟨U, hUd⟩ : ∃ U, U = h * 8 + l / 2305843009213693952 := ⟨_, rfl⟩
  obtain ⟨v, hv⟩ : ∃ v, v = l * 8 % 18446744073709551616 := ⟨_, rfl⟩
  obtain ⟨e1, he1⟩ : ∃ e1, e1 = v / 4294967296 := ⟨_, rfl⟩
  obtain ⟨e0, he0⟩ : ∃ e0, e0 = v % 4294967296 := ⟨_, rfl⟩
  have hY : Y = a * 4294967296 + b := by omega
  have hYlo : 9223372036854775808 ≤ Y := by omega
  have hYhi : Y < 18446744073709551616 := by omega
  have ha1 : 2147483648 ≤ a := by omega
  have ha2 : a < 4294967296 := by omega
  have hb1 : b < 4294967296 := by omega
  have hv2 : v < 18446744073709551616 := by omega
  have he12 : e1 < 4294967296 := by omega
  have he02 : e0 < 4294967296 := by omega
  have hU : U < Y := by omega
  obtain ⟨R, hR⟩ : ∃ R, R = (U * 4294967296 + e1) % Y := ⟨_, rfl⟩
  obtain ⟨Q1, hQ1⟩ : ∃ Q1, Q1 = (U * 4294967296 + e1) / Y := ⟨_, rfl⟩
  obtain ⟨Q2, hQ2⟩ : ∃ Q2, Q2 = (R * 4294967296 + e0) / Y := ⟨_, rfl⟩
  have hRY : R < Y := by rw [hR]; exact Nat.mod_lt _ (by omega)
  have hfin : (R * 4294967296 + e0) % Y / 2 ^ 3 = (h * 18446744073709551616 + l) % y := div_fin3 h l y Y U v e1 e0 R hYd hUd hv he1 he0 hR (by omega)
  have hlz : ∀ w, Calls Try.prog 181 #[.int .u64 ((y : Nat) : Int)] w (fun e w' => e = .returned (.int .i64 3) ∧ Le w w') := fun w => by
    have := lz64_ok y (by omega) (by omega) w
    rw [if_pos (by omega)] at this
    exact this
  refine enter Try.func158 rfl rfl ?_
  have L0 := Le.refl w
  refine WC.seq ?_
  refine WC.region ?_
  refine W.any (.assign rfl) rfl rfl rfl ?_
  refine W.any (.assign rfl) rfl rfl rfl ?_
  refine W.nil ?_
  refine E.thenN ?_
  refine WC.seq ?_
  refine WC.seq ?_
  refine WC.region ?_
  refine W.any (.move rfl) rfl rfl rfl ?_
  refine W.any (.eql rfl rfl) rfl rfl rfl ?_
  refine W.nil ?_
  refine E.thenN ?_
  refine WC.condB rfl (fun h => absurd h (by simp; omega)) (fun _ => ?_)
  refine WC.skip ?_
  refine E.thenN ?_
  refine WC.seq ?_
  refine WC.seq ?_
  refine WC.region ?_
  refine W.any (.move rfl) rfl rfl rfl ?_
  refine W.any (.move rfl) rfl rfl rfl ?_
  refine W.any (.leq rfl rfl) rfl rfl rfl ?_
  refine W.nil ?_
  refine E.thenN ?_
  refine WC.condB rfl (fun h => absurd h (by simp; omega)) (fun _ => ?_)
  refine WC.skip ?_
  refine E.thenN ?_
  refine WC.seq ?_
  refine WC.seq ?_
  refine WC.region ?_
  refine W.any (.move rfl) rfl rfl rfl ?_
  refine W.any (.eql rfl rfl) rfl rfl rfl ?_
  refine W.nil ?_
  refine E.thenN ?_
  refine WC.cond rfl (fun c2 => ?_) (fun c2 => ?_)
  · have h0 : h = 0 := by omega
    subst h0
    refine WC.seq ?_
    refine WC.draw [0, 1, 2, 3, 4, 5, 6, 7] mixed (by kernel_rfl) ?_
    intro w6 d6
    have L6 := L0.trans d6
    refine G.any rfl rfl (.move rfl) rfl rfl rfl ?_
    refine G.any rfl rfl (.move rfl) rfl rfl rfl ?_
    refine G.any rfl rfl (.quoN (l) (y) (l / y) rfl rfl rfl rfl (by omega) (by omega) (rfl)) rfl rfl rfl ?_
    refine G.any rfl rfl (.move rfl) rfl rfl rfl ?_
    refine G.any rfl rfl (.move rfl) rfl rfl rfl ?_
    refine G.any rfl rfl (.remN (l) (y) (l % y) rfl rfl rfl rfl (by omega) (rfl)) rfl rfl rfl ?_
    refine G.any rfl rfl (.assign rfl) rfl rfl rfl ?_
    refine G.any rfl rfl (.assign rfl) rfl rfl rfl ?_
    refine G.nil ?_
    refine E.thenN ?_
    refine WC.ret ?_
    refine E.thenR ?_
    refine E.ret2 rfl rfl rfl ?_
    exact ⟨_, by rw [Nat.zero_mul, Nat.zero_add], L6⟩
  · refine WC.skip ?_
    refine E.thenN ?_
    refine WC.seq ?_
    refine WC.region ?_
    refine W.any (.move rfl) rfl rfl rfl ?_
    refine W.ef rfl rfl rfl ?_
    refine Ef.call go181 rfl rfl (hlz w) ?_
    rintro _ w7_1 ⟨rfl, h7_1⟩
    refine ⟨_, rfl, ?_⟩
    have L7_1 := L0.trans h7_1
    refine W.rd (.idI (isS Try.underlying3) Try.underlying213 rfl (IntWalk.u64_in _ (by decide))) rfl rfl rfl ?_
    refine W.any (.assign rfl) rfl rfl rfl ?_
    refine W.nil ?_
    refine E.thenN ?_
    refine WC.seq ?_
    refine WC.region ?_
    refine W.any (.move rfl) rfl rfl rfl ?_
    refine W.any (.move rfl) rfl rfl rfl ?_
    refine W.any (.shlN (y) (3) (Y) rfl rfl rfl rfl (by decide) (by omega)) rfl rfl rfl ?_
    refine W.any (.assign rfl) rfl rfl rfl ?_
    refine W.nil ?_
    refine E.thenN ?_
    refine WC.seq ?_
    refine WC.region ?_
    refine W.any (.move rfl) rfl rfl rfl ?_
    refine W.any (.shrE (Y) (32) (a) rfl rfl rfl rfl (by decide) (by omega)) rfl rfl rfl ?_
    refine W.any (.assign rfl) rfl rfl rfl ?_
    refine W.nil ?_
    refine E.thenN ?_
    refine WC.seq ?_
    refine WC.region ?_
    refine W.any (.move rfl) rfl rfl rfl ?_
    refine W.any (.andE (Y) (4294967295) (b) rfl rfl rfl rfl (by omega) (by omega) ((mask32 _).trans hb0.symm)) rfl rfl rfl ?_
    refine W.any (.assign rfl) rfl rfl rfl ?_
    refine W.nil ?_
    refine E.thenN ?_
    refine WC.seq ?_
    refine WC.region ?_
    refine W.any (.move rfl) rfl rfl rfl ?_
    refine W.any (.move rfl) rfl rfl rfl ?_
    refine W.any (.shlN (h) (3) (h * 8) rfl rfl rfl rfl (by decide) (by omega)) rfl rfl rfl ?_
    refine W.any (.move rfl) rfl rfl rfl ?_
    refine W.any (.move rfl) rfl rfl rfl ?_
    refine W.any (.subN (64) (3) (61) rfl rfl rfl rfl (by decide) (by decide)) rfl rfl rfl ?_
    refine W.any (.shrE (l) (61) (l / 2305843009213693952) rfl rfl rfl rfl (by decide) (rfl)) rfl rfl rfl ?_
    refine W.any (.orE (h * 8) (l / 2305843009213693952) (U) rfl rfl rfl rfl (by omega) (by omega) (by rw [hUd, Nat.mul_comm h, show (8 : Nat) = 2 ^ 3 by decide]; exact (Nat.two_pow_add_eq_or_of_lt (by omega) _).symm)) rfl rfl rfl ?_
    refine W.any (.assign rfl) rfl rfl rfl ?_
    refine W.nil ?_
    refine E.thenN ?_
    refine WC.seq ?_
    refine WC.region ?_
    refine W.any (.move rfl) rfl rfl rfl ?_
    refine W.any (.move rfl) rfl rfl rfl ?_
    refine W.any (.shlN (l) (3) (v) rfl rfl rfl rfl (by decide) (hv.symm)) rfl rfl rfl ?_
    refine W.any (.assign rfl) rfl rfl rfl ?_
    refine W.nil ?_
    refine E.thenN ?_
    refine WC.seq ?_
    refine WC.region ?_
    refine W.any (.move rfl) rfl rfl rfl ?_
    refine W.any (.shrE (v) (32) (e1) rfl rfl rfl rfl (by decide) (by omega)) rfl rfl rfl ?_
    refine W.any (.assign rfl) rfl rfl rfl ?_
    refine W.nil ?_
    refine E.thenN ?_
    refine WC.seq ?_
    refine WC.region ?_
    refine W.any (.move rfl) rfl rfl rfl ?_
    refine W.any (.andE (v) (4294967295) (e0) rfl rfl rfl rfl (by omega) (by omega) ((mask32 _).trans he0.symm)) rfl rfl rfl ?_
    refine W.any (.assign rfl) rfl rfl rfl ?_
    refine W.nil ?_
    refine E.thenN ?_
    refine WC.seq ?_
    refine WC.region ?_
    refine W.any (.move rfl) rfl rfl rfl ?_
    refine W.any (.move rfl) rfl rfl rfl ?_
    refine W.any (.quoN (U) (a) (U / a) rfl rfl rfl rfl (by omega) (by omega) (rfl)) rfl rfl rfl ?_
    refine W.any (.assign rfl) rfl rfl rfl ?_
    refine W.nil ?_
    refine E.thenN ?_
    refine WC.seq ?_
    refine WC.region ?_
    refine W.any (.move rfl) rfl rfl rfl ?_
    refine W.any (.move rfl) rfl rfl rfl ?_
    refine W.any (.move rfl) rfl rfl rfl ?_
    refine W.any (.mulN (U / a) (a) (U / a * a) rfl rfl rfl rfl (Nat.mod_eq_of_lt (Nat.lt_of_le_of_lt (Nat.div_mul_le_self _ _) (by omega)))) rfl rfl rfl ?_
    refine W.any (.subN (U) (U / a * a) (U % a) rfl rfl rfl rfl (Nat.le_trans (Nat.div_mul_le_self _ _) (by omega)) (sub_div U a (by omega))) rfl rfl rfl ?_
    refine W.any (.assign rfl) rfl rfl rfl ?_
    refine W.nil ?_
    refine E.thenN ?_
    refine WC.cut (ι := Unit) (fun () => [(2, .int .u64 ((Y : Nat) : Int)), (8, .int .u64 (3 : Int)), (9, .int .u64 ((a : Nat) : Int)), (10, .int .u64 ((b : Nat) : Int)), (11, .int .u64 ((U : Nat) : Int)), (13, .int .u64 ((e1 : Nat) : Int)), (14, .int .u64 ((e0 : Nat) : Int)), (15, .int .u64 ((Q1 : Nat) : Int))]) (fun () wc15 => Le w wc15) ?_ ?_
    · refine WC.block ?_
      refine WC.loop (ι := Nat × Nat) (fun ⟨qh, rh⟩ => [(2, .int .u64 ((Y : Nat) : Int)), (8, .int .u64 (3 : Int)), (9, .int .u64 ((a : Nat) : Int)), (10, .int .u64 ((b : Nat) : Int)), (11, .int .u64 ((U : Nat) : Int)), (13, .int .u64 ((e1 : Nat) : Int)), (14, .int .u64 ((e0 : Nat) : Int)), (15, .int .u64 ((qh : Nat) : Int)), (16, .int .u64 ((rh : Nat) : Int))]) (fun ⟨qh, rh⟩ wl => Le w wl ∧ qh * a + rh = U ∧ Q1 ≤ qh ∧ rh < 4294967296 ∧ qh ≤ 4294967297) (fun ⟨qh, rh⟩ => qh) (U / a, U % a) ?_ ?_ ?_
      · exact .cons rfl (.cons rfl (.cons rfl (.cons rfl (.cons rfl (.cons rfl (.cons rfl (.cons rfl (.cons rfl (.nil _)))))))))
      · exact ⟨L7_1, by rw [Nat.mul_comm]; exact Nat.div_add_mod _ _, by rw [hQ1]; exact dig_start hY (by omega) hU (by omega), Nat.lt_of_lt_of_le (Nat.mod_lt _ (by omega)) (by omega), dig_first hY (by omega) (by omega) hU⟩
      · rintro ⟨qh, rh⟩ wl ⟨Ll, hi, hq, hr, hq2⟩
        refine WC.seq ?_
        refine WC.seq ?_
        refine WC.region ?_
        refine W.any (.move rfl) rfl rfl rfl ?_
        refine W.any (.geq rfl rfl) rfl rfl rfl ?_
        by_cases hb : 4294967296 ≤ qh
        · refine W.any (.move rfl) rfl rfl rfl ?_
          refine W.skip rfl rfl rfl (decide_eq_true (by omega)) rfl rfl ?_
          refine W.skip rfl rfl rfl (decide_eq_true (by omega)) rfl rfl ?_
          refine W.skip rfl rfl rfl (decide_eq_true (by omega)) rfl rfl ?_
          refine W.skip rfl rfl rfl (decide_eq_true (by omega)) rfl rfl ?_
          refine W.skip rfl rfl rfl (decide_eq_true (by omega)) rfl rfl ?_
          refine W.skip rfl rfl rfl (decide_eq_true (by omega)) rfl rfl ?_
          refine W.skip rfl rfl rfl (decide_eq_true (by omega)) rfl rfl ?_
          refine W.skip rfl rfl rfl (decide_eq_true (by omega)) rfl rfl ?_
          refine W.any (.pickT rfl (decide_eq_true (by omega)) rfl) rfl rfl rfl ?_
          have hgt : Q1 < qh := by rw [hQ1]; exact dig_gt hY hU (by omega) hi (by omega)
          have hd : qh * a = (qh - 1) * a + a := by rw [← Nat.succ_mul]; congr 1; omega
          have hinv : (qh - 1) * a + (rh + a) = U := by omega
          refine W.nil ?_
          refine E.thenN ?_
          refine WC.condT rfl ?_
          refine WC.skip ?_
          refine E.thenN ?_
          refine WC.block ?_
          refine WC.seq ?_
          refine WC.region ?_
          refine W.any (.move rfl) rfl rfl rfl ?_
          refine W.any (.subN (qh) (1) (qh - 1) rfl rfl rfl rfl (by omega) (by omega)) rfl rfl rfl ?_
          refine W.any (.assign rfl) rfl rfl rfl ?_
          refine W.nil ?_
          refine E.thenN ?_
          refine WC.seq ?_
          refine WC.region ?_
          refine W.any (.move rfl) rfl rfl rfl ?_
          refine W.any (.move rfl) rfl rfl rfl ?_
          refine W.any (.addN (rh) (a) (rh + a) rfl rfl rfl rfl (by omega)) rfl rfl rfl ?_
          refine W.any (.assign rfl) rfl rfl rfl ?_
          refine W.nil ?_
          refine E.thenN ?_
          refine WC.seq ?_
          refine WC.region ?_
          refine W.any (.move rfl) rfl rfl rfl ?_
          refine W.any (.geq rfl rfl) rfl rfl rfl ?_
          refine W.nil ?_
          refine E.thenN ?_
          refine WC.cond rfl (fun c4 => ?_) (fun c4 => ?_)
          · have hqe : qh - 1 = Q1 := Nat.le_antisymm (by rw [hQ1]; exact dig_brk hY (by omega) hb1 hinv (by omega) (by omega)) (by omega)
            refine WC.exit ?_
            refine E.blkX rfl ?_
            refine E.thenX ?_
            refine E.blkH ?_
            refine E.meet () (.cons rfl (.cons rfl (.cons rfl (.cons rfl (.cons rfl (.cons rfl (.cons rfl (.cons' rfl (int_eq (by rw [hqe])) (.nil _))))))))) ?_
            exact Ll
          · refine WC.skip ?_
            refine E.blkN ?_
            refine E.again (qh - 1, rh + a) (.cons rfl (.cons rfl (.cons rfl (.cons rfl (.cons rfl (.cons rfl (.cons rfl (.cons rfl (.cons rfl (.nil _)))))))))) ?_ ?_
            · exact ⟨Ll, hinv, by omega, by omega, by omega⟩
            · first | omega | (simp only []; omega)
        · refine W.any (.move rfl) rfl rfl rfl ?_
          refine W.rdg (Any.rd (.move rfl) _) rfl rfl rfl (decide_eq_false (by omega)) rfl rfl ?_
          refine W.rdg (Any.rd (.move rfl) _) rfl rfl rfl (decide_eq_false (by omega)) rfl rfl ?_
          have hqb : qh * b < 18446744073709551616 := Nat.lt_of_le_of_lt (Nat.mul_le_mul (show qh ≤ 4294967295 by omega) (show b ≤ 4294967295 by omega)) (by decide)
          refine W.rdg (Any.rd (.mulN (qh) (b) (qh * b) rfl rfl rfl rfl (Nat.mod_eq_of_lt hqb)) _) rfl rfl rfl (decide_eq_false (by omega)) rfl rfl ?_
          refine W.rdg (Any.rd (.move rfl) _) rfl rfl rfl (decide_eq_false (by omega)) rfl rfl ?_
          refine W.rdg (Any.rd (.mulN (4294967296) (rh) (4294967296 * rh) rfl rfl rfl rfl (by omega)) _) rfl rfl rfl (decide_eq_false (by omega)) rfl rfl ?_
          refine W.rdg (Any.rd (.move rfl) _) rfl rfl rfl (decide_eq_false (by omega)) rfl rfl ?_
          refine W.rdg (Any.rd (.addN (4294967296 * rh) (e1) (4294967296 * rh + e1) rfl rfl rfl rfl (by omega)) _) rfl rfl rfl (decide_eq_false (by omega)) rfl rfl ?_
          refine W.rdg (Any.rd (.gtr rfl rfl) _) rfl rfl rfl (decide_eq_false (by omega)) rfl rfl ?_
          refine W.any (.pickF rfl (decide_eq_false (by omega)) rfl) rfl rfl rfl ?_
          refine W.nil ?_
          refine E.thenN ?_
          refine WC.cond rfl (fun c3 => ?_) (fun c3 => ?_)
          · have hgt : Q1 < qh := by rw [hQ1]; exact dig_gt hY hU (by omega) hi (by omega)
            have hd : qh * a = (qh - 1) * a + a := by rw [← Nat.succ_mul]; congr 1; omega
            have hinv : (qh - 1) * a + (rh + a) = U := by omega
            refine WC.skip ?_
            refine E.thenN ?_
            refine WC.block ?_
            refine WC.seq ?_
            refine WC.region ?_
            refine W.any (.move rfl) rfl rfl rfl ?_
            refine W.any (.subN (qh) (1) (qh - 1) rfl rfl rfl rfl (by omega) (by omega)) rfl rfl rfl ?_
            refine W.any (.assign rfl) rfl rfl rfl ?_
            refine W.nil ?_
            refine E.thenN ?_
            refine WC.seq ?_
            refine WC.region ?_
            refine W.any (.move rfl) rfl rfl rfl ?_
            refine W.any (.move rfl) rfl rfl rfl ?_
            refine W.any (.addN (rh) (a) (rh + a) rfl rfl rfl rfl (by omega)) rfl rfl rfl ?_
            refine W.any (.assign rfl) rfl rfl rfl ?_
            refine W.nil ?_
            refine E.thenN ?_
            refine WC.seq ?_
            refine WC.region ?_
            refine W.any (.move rfl) rfl rfl rfl ?_
            refine W.any (.geq rfl rfl) rfl rfl rfl ?_
            refine W.nil ?_
            refine E.thenN ?_
            refine WC.cond rfl (fun c4 => ?_) (fun c4 => ?_)
            · have hqe : qh - 1 = Q1 := Nat.le_antisymm (by rw [hQ1]; exact dig_brk hY (by omega) hb1 hinv (by omega) (by omega)) (by omega)
              refine WC.exit ?_
              refine E.blkX rfl ?_
              refine E.thenX ?_
              refine E.blkH ?_
              refine E.meet () (.cons rfl (.cons rfl (.cons rfl (.cons rfl (.cons rfl (.cons rfl (.cons rfl (.cons' rfl (int_eq (by rw [hqe])) (.nil _))))))))) ?_
              exact Ll
            · refine WC.skip ?_
              refine E.blkN ?_
              refine E.again (qh - 1, rh + a) (.cons rfl (.cons rfl (.cons rfl (.cons rfl (.cons rfl (.cons rfl (.cons rfl (.cons rfl (.cons rfl (.nil _)))))))))) ?_ ?_
              · exact ⟨Ll, hinv, by omega, by omega, by omega⟩
              · first | omega | (simp only []; omega)
          · have hqe : qh = Q1 := Nat.le_antisymm (by rw [hQ1]; exact dig_le hY (by omega) hi (by omega)) hq
            refine WC.exit ?_
            refine E.thenX ?_
            refine E.thenX ?_
            refine E.blkH ?_
            refine E.meet () (.cons rfl (.cons rfl (.cons rfl (.cons rfl (.cons rfl (.cons rfl (.cons rfl (.cons' rfl (int_eq (by rw [hqe])) (.nil _))))))))) ?_
            exact Ll
    · rintro ⟨⟩ wc15 Lc15
      refine WC.seq ?_
      refine WC.region ?_
      refine W.any (.move rfl) rfl rfl rfl ?_
      refine W.any (.mulN (U) (4294967296) (U * 4294967296 % 18446744073709551616) rfl rfl rfl rfl (rfl)) rfl rfl rfl ?_
      refine W.any (.move rfl) rfl rfl rfl ?_
      refine W.any (.addN (U * 4294967296 % 18446744073709551616) (e1) ((U * 4294967296 + e1) % 18446744073709551616) rfl rfl rfl rfl (by rw [Nat.mod_add_mod])) rfl rfl rfl ?_
      refine W.any (.move rfl) rfl rfl rfl ?_
      refine W.any (.move rfl) rfl rfl rfl ?_
      refine W.any (.mulN (Q1) (Y) (Q1 * Y % 18446744073709551616) rfl rfl rfl rfl (rfl)) rfl rfl rfl ?_
      refine W.any (.subN ((U * 4294967296 + e1) % 18446744073709551616) (Q1 * Y % 18446744073709551616) (R) rfl rfl rfl rfl (Nat.le_of_lt (Nat.mod_lt _ (by decide))) ((dig_rest Y _ _ hQ1 (by omega) (by omega)).trans hR.symm)) rfl rfl rfl ?_
      refine W.any (.assign rfl) rfl rfl rfl ?_
      refine W.nil ?_
      refine E.thenN ?_
      refine WC.seq ?_
      refine WC.region ?_
      refine W.any (.move rfl) rfl rfl rfl ?_
      refine W.any (.move rfl) rfl rfl rfl ?_
      refine W.any (.quoN (R) (a) (R / a) rfl rfl rfl rfl (by omega) (by omega) (rfl)) rfl rfl rfl ?_
      refine W.any (.assign rfl) rfl rfl rfl ?_
      refine W.nil ?_
      refine E.thenN ?_
      refine WC.seq ?_
      refine WC.region ?_
      refine W.any (.move rfl) rfl rfl rfl ?_
      refine W.any (.move rfl) rfl rfl rfl ?_
      refine W.any (.move rfl) rfl rfl rfl ?_
      refine W.any (.mulN (R / a) (a) (R / a * a) rfl rfl rfl rfl (Nat.mod_eq_of_lt (Nat.lt_of_le_of_lt (Nat.div_mul_le_self _ _) (by omega)))) rfl rfl rfl ?_
      refine W.any (.subN (R) (R / a * a) (R % a) rfl rfl rfl rfl (Nat.le_trans (Nat.div_mul_le_self _ _) (by omega)) (sub_div R a (by omega))) rfl rfl rfl ?_
      refine W.any (.assign rfl) rfl rfl rfl ?_
      refine W.nil ?_
      refine E.thenN ?_
      refine WC.cut (ι := Unit) (fun () => [(2, .int .u64 ((Y : Nat) : Int)), (8, .int .u64 (3 : Int)), (9, .int .u64 ((a : Nat) : Int)), (10, .int .u64 ((b : Nat) : Int)), (14, .int .u64 ((e0 : Nat) : Int)), (17, .int .u64 ((R : Nat) : Int)), (15, .int .u64 ((Q1 : Nat) : Int)), (18, .int .u64 ((Q2 : Nat) : Int))]) (fun () wc18 => Le w wc18) ?_ ?_
      · refine WC.block ?_
        refine WC.loop (ι := Nat × Nat) (fun ⟨qh, rh⟩ => [(2, .int .u64 ((Y : Nat) : Int)), (8, .int .u64 (3 : Int)), (9, .int .u64 ((a : Nat) : Int)), (10, .int .u64 ((b : Nat) : Int)), (14, .int .u64 ((e0 : Nat) : Int)), (17, .int .u64 ((R : Nat) : Int)), (15, .int .u64 ((Q1 : Nat) : Int)), (18, .int .u64 ((qh : Nat) : Int)), (16, .int .u64 ((rh : Nat) : Int))]) (fun ⟨qh, rh⟩ wl => Le w wl ∧ qh * a + rh = R ∧ Q2 ≤ qh ∧ rh < 4294967296 ∧ qh ≤ 4294967297) (fun ⟨qh, rh⟩ => qh) (R / a, R % a) ?_ ?_ ?_
        · exact .cons rfl (.cons rfl (.cons rfl (.cons rfl (.cons rfl (.cons rfl (.cons rfl (.cons rfl (.cons rfl (.nil _)))))))))
        · exact ⟨Lc15, by rw [Nat.mul_comm]; exact Nat.div_add_mod _ _, by rw [hQ2]; exact dig_start hY (by omega) hRY (by omega), Nat.lt_of_lt_of_le (Nat.mod_lt _ (by omega)) (by omega), dig_first hY (by omega) (by omega) hRY⟩
        · rintro ⟨qh, rh⟩ wl ⟨Ll, hi, hq, hr, hq2⟩
          refine WC.seq ?_
          refine WC.seq ?_
          refine WC.region ?_
          refine W.any (.move rfl) rfl rfl rfl ?_
          refine W.any (.geq rfl rfl) rfl rfl rfl ?_
          by_cases hb : 4294967296 ≤ qh
          · refine W.any (.move rfl) rfl rfl rfl ?_
            refine W.skip rfl rfl rfl (decide_eq_true (by omega)) rfl rfl ?_
            refine W.skip rfl rfl rfl (decide_eq_true (by omega)) rfl rfl ?_
            refine W.skip rfl rfl rfl (decide_eq_true (by omega)) rfl rfl ?_
            refine W.skip rfl rfl rfl (decide_eq_true (by omega)) rfl rfl ?_
            refine W.skip rfl rfl rfl (decide_eq_true (by omega)) rfl rfl ?_
            refine W.skip rfl rfl rfl (decide_eq_true (by omega)) rfl rfl ?_
            refine W.skip rfl rfl rfl (decide_eq_true (by omega)) rfl rfl ?_
            refine W.skip rfl rfl rfl (decide_eq_true (by omega)) rfl rfl ?_
            refine W.any (.pickT rfl (decide_eq_true (by omega)) rfl) rfl rfl rfl ?_
            have hgt : Q2 < qh := by rw [hQ2]; exact dig_gt hY hRY (by omega) hi (by omega)
            have hd : qh * a = (qh - 1) * a + a := by rw [← Nat.succ_mul]; congr 1; omega
            have hinv : (qh - 1) * a + (rh + a) = R := by omega
            refine W.nil ?_
            refine E.thenN ?_
            refine WC.condT rfl ?_
            refine WC.skip ?_
            refine E.thenN ?_
            refine WC.block ?_
            refine WC.seq ?_
            refine WC.region ?_
            refine W.any (.move rfl) rfl rfl rfl ?_
            refine W.any (.subN (qh) (1) (qh - 1) rfl rfl rfl rfl (by omega) (by omega)) rfl rfl rfl ?_
            refine W.any (.assign rfl) rfl rfl rfl ?_
            refine W.nil ?_
            refine E.thenN ?_
            refine WC.seq ?_
            refine WC.region ?_
            refine W.any (.move rfl) rfl rfl rfl ?_
            refine W.any (.move rfl) rfl rfl rfl ?_
            refine W.any (.addN (rh) (a) (rh + a) rfl rfl rfl rfl (by omega)) rfl rfl rfl ?_
            refine W.any (.assign rfl) rfl rfl rfl ?_
            refine W.nil ?_
            refine E.thenN ?_
            refine WC.seq ?_
            refine WC.region ?_
            refine W.any (.move rfl) rfl rfl rfl ?_
            refine W.any (.geq rfl rfl) rfl rfl rfl ?_
            refine W.nil ?_
            refine E.thenN ?_
            refine WC.cond rfl (fun c6 => ?_) (fun c6 => ?_)
            · have hqe : qh - 1 = Q2 := Nat.le_antisymm (by rw [hQ2]; exact dig_brk hY (by omega) hb1 hinv (by omega) (by omega)) (by omega)
              refine WC.exit ?_
              refine E.blkX rfl ?_
              refine E.thenX ?_
              refine E.blkH ?_
              refine E.meet () (.cons rfl (.cons rfl (.cons rfl (.cons rfl (.cons rfl (.cons rfl (.cons rfl (.cons' rfl (int_eq (by rw [hqe])) (.nil _))))))))) ?_
              exact Ll
            · refine WC.skip ?_
              refine E.blkN ?_
              refine E.again (qh - 1, rh + a) (.cons rfl (.cons rfl (.cons rfl (.cons rfl (.cons rfl (.cons rfl (.cons rfl (.cons rfl (.cons rfl (.nil _)))))))))) ?_ ?_
              · exact ⟨Ll, hinv, by omega, by omega, by omega⟩
              · first | omega | (simp only []; omega)
          · refine W.any (.move rfl) rfl rfl rfl ?_
            refine W.rdg (Any.rd (.move rfl) _) rfl rfl rfl (decide_eq_false (by omega)) rfl rfl ?_
            refine W.rdg (Any.rd (.move rfl) _) rfl rfl rfl (decide_eq_false (by omega)) rfl rfl ?_
            have hqb : qh * b < 18446744073709551616 := Nat.lt_of_le_of_lt (Nat.mul_le_mul (show qh ≤ 4294967295 by omega) (show b ≤ 4294967295 by omega)) (by decide)
            refine W.rdg (Any.rd (.mulN (qh) (b) (qh * b) rfl rfl rfl rfl (Nat.mod_eq_of_lt hqb)) _) rfl rfl rfl (decide_eq_false (by omega)) rfl rfl ?_
            refine W.rdg (Any.rd (.move rfl) _) rfl rfl rfl (decide_eq_false (by omega)) rfl rfl ?_
            refine W.rdg (Any.rd (.mulN (4294967296) (rh) (4294967296 * rh) rfl rfl rfl rfl (by omega)) _) rfl rfl rfl (decide_eq_false (by omega)) rfl rfl ?_
            refine W.rdg (Any.rd (.move rfl) _) rfl rfl rfl (decide_eq_false (by omega)) rfl rfl ?_
            refine W.rdg (Any.rd (.addN (4294967296 * rh) (e0) (4294967296 * rh + e0) rfl rfl rfl rfl (by omega)) _) rfl rfl rfl (decide_eq_false (by omega)) rfl rfl ?_
            refine W.rdg (Any.rd (.gtr rfl rfl) _) rfl rfl rfl (decide_eq_false (by omega)) rfl rfl ?_
            refine W.any (.pickF rfl (decide_eq_false (by omega)) rfl) rfl rfl rfl ?_
            refine W.nil ?_
            refine E.thenN ?_
            refine WC.cond rfl (fun c5 => ?_) (fun c5 => ?_)
            · have hgt : Q2 < qh := by rw [hQ2]; exact dig_gt hY hRY (by omega) hi (by omega)
              have hd : qh * a = (qh - 1) * a + a := by rw [← Nat.succ_mul]; congr 1; omega
              have hinv : (qh - 1) * a + (rh + a) = R := by omega
              refine WC.skip ?_
              refine E.thenN ?_
              refine WC.block ?_
              refine WC.seq ?_
              refine WC.region ?_
              refine W.any (.move rfl) rfl rfl rfl ?_
              refine W.any (.subN (qh) (1) (qh - 1) rfl rfl rfl rfl (by omega) (by omega)) rfl rfl rfl ?_
              refine W.any (.assign rfl) rfl rfl rfl ?_
              refine W.nil ?_
              refine E.thenN ?_
              refine WC.seq ?_
              refine WC.region ?_
              refine W.any (.move rfl) rfl rfl rfl ?_
              refine W.any (.move rfl) rfl rfl rfl ?_
              refine W.any (.addN (rh) (a) (rh + a) rfl rfl rfl rfl (by omega)) rfl rfl rfl ?_
              refine W.any (.assign rfl) rfl rfl rfl ?_
              refine W.nil ?_
              refine E.thenN ?_
              refine WC.seq ?_
              refine WC.region ?_
              refine W.any (.move rfl) rfl rfl rfl ?_
              refine W.any (.geq rfl rfl) rfl rfl rfl ?_
              refine W.nil ?_
              refine E.thenN ?_
              refine WC.cond rfl (fun c6 => ?_) (fun c6 => ?_)
              · have hqe : qh - 1 = Q2 := Nat.le_antisymm (by rw [hQ2]; exact dig_brk hY (by omega) hb1 hinv (by omega) (by omega)) (by omega)
                refine WC.exit ?_
                refine E.blkX rfl ?_
                refine E.thenX ?_
                refine E.blkH ?_
                refine E.meet () (.cons rfl (.cons rfl (.cons rfl (.cons rfl (.cons rfl (.cons rfl (.cons rfl (.cons' rfl (int_eq (by rw [hqe])) (.nil _))))))))) ?_
                exact Ll
              · refine WC.skip ?_
                refine E.blkN ?_
                refine E.again (qh - 1, rh + a) (.cons rfl (.cons rfl (.cons rfl (.cons rfl (.cons rfl (.cons rfl (.cons rfl (.cons rfl (.cons rfl (.nil _)))))))))) ?_ ?_
                · exact ⟨Ll, hinv, by omega, by omega, by omega⟩
                · first | omega | (simp only []; omega)
            · have hqe : qh = Q2 := Nat.le_antisymm (by rw [hQ2]; exact dig_le hY (by omega) hi (by omega)) hq
              refine WC.exit ?_
              refine E.thenX ?_
              refine E.thenX ?_
              refine E.blkH ?_
              refine E.meet () (.cons rfl (.cons rfl (.cons rfl (.cons rfl (.cons rfl (.cons rfl (.cons rfl (.cons' rfl (int_eq (by rw [hqe])) (.nil _))))))))) ?_
              exact Ll
      · rintro ⟨⟩ wc18 Lc18
        refine WC.seq ?_
        refine WC.region ?_
        refine W.any (.move rfl) rfl rfl rfl ?_
        refine W.any (.mulN (Q1) (4294967296) (Q1 * 4294967296 % 18446744073709551616) rfl rfl rfl rfl (rfl)) rfl rfl rfl ?_
        refine W.any (.move rfl) rfl rfl rfl ?_
        refine W.any (.addN (Q1 * 4294967296 % 18446744073709551616) (Q2) ((Q1 * 4294967296 % 18446744073709551616 + Q2) % 18446744073709551616) rfl rfl rfl rfl (rfl)) rfl rfl rfl ?_
        refine W.any (.move rfl) rfl rfl rfl ?_
        refine W.any (.mulN (R) (4294967296) (R * 4294967296 % 18446744073709551616) rfl rfl rfl rfl (rfl)) rfl rfl rfl ?_
        refine W.any (.move rfl) rfl rfl rfl ?_
        refine W.any (.addN (R * 4294967296 % 18446744073709551616) (e0) ((R * 4294967296 + e0) % 18446744073709551616) rfl rfl rfl rfl (by rw [Nat.mod_add_mod])) rfl rfl rfl ?_
        refine W.any (.move rfl) rfl rfl rfl ?_
        refine W.any (.move rfl) rfl rfl rfl ?_
        refine W.any (.mulN (Q2) (Y) (Q2 * Y % 18446744073709551616) rfl rfl rfl rfl (rfl)) rfl rfl rfl ?_
        refine W.any (.subN ((R * 4294967296 + e0) % 18446744073709551616) (Q2 * Y % 18446744073709551616) ((R * 4294967296 + e0) % Y) rfl rfl rfl rfl (Nat.le_of_lt (Nat.mod_lt _ (by decide))) (dig_rest Y _ _ hQ2 (by omega) (by omega))) rfl rfl rfl ?_
        refine W.any (.move rfl) rfl rfl rfl ?_
        refine W.any (.shrE ((R * 4294967296 + e0) % Y) (3) ((h * 18446744073709551616 + l) % y) rfl rfl rfl rfl (by decide) (hfin)) rfl rfl rfl ?_
        refine W.any (.assign rfl) rfl rfl rfl ?_
        refine W.any (.assign rfl) rfl rfl rfl ?_
        refine W.nil ?_
        refine E.thenN ?_
        refine WC.ret ?_
        refine E.ret2 rfl rfl rfl ?_
        exact ⟨_, rfl, Lc18⟩

theorem rem64_ok (h l y : Nat) (h1 : 1152921504606846976 ≤ y) (h2 : y < 4611686018427387904) (hl : l < 18446744073709551616) (w : World) : Calls Try.prog 163 #[.int .u64 ((h : Nat) : Int), .int .u64 ((l : Nat) : Int), .int .u64 ((y : Nat) : Int)] w fun e w' => e = .returned (.int .u64 (((h * 18446744073709551616 + l) % y : Nat) : Int)) ∧ Le w w' := by
  have hd : ∀ w, Calls Try.prog 158 #[.int .u64 ((h % y : Nat) : Int), .int .u64 ((l : Nat) : Int), .int .u64 ((y : Nat) : Int)] w fun e w' => ∃ qq : Int, e = .returned (.tuple #[.int .u64 qq, .int .u64 (((h * 18446744073709551616 + l) % y : Nat) : Int)]) ∧ Le w w' := fun w => by
    rw [show (h * 18446744073709551616 + l) % y = (h % y * 18446744073709551616 + l) % y by rw [Nat.add_mod (h % y * _), Nat.mul_mod (h % y), Nat.mod_mod, ← Nat.mul_mod, ← Nat.add_mod]]
    by_cases hs : y < 2305843009213693952
    · exact div64_ok3 (h % y) l y (by omega) (by omega) (Nat.mod_lt _ (by omega)) hl w
    · exact div64_ok2 (h % y) l y (by omega) (by omega) (Nat.mod_lt _ (by omega)) hl w
  refine enter Try.func163 rfl rfl ?_
  have L0 := Le.refl w
  refine WC.seq ?_
  refine WC.region ?_
  refine W.any (.assign rfl) rfl rfl rfl ?_
  refine W.nil ?_
  refine E.thenN ?_
  refine WC.seq ?_
  refine WC.region ?_
  refine W.any (.move rfl) rfl rfl rfl ?_
  refine W.any (.move rfl) rfl rfl rfl ?_
  refine W.any (.remN (h) (y) (h % y) rfl rfl rfl rfl (by omega) (rfl)) rfl rfl rfl ?_
  refine W.any (.move rfl) rfl rfl rfl ?_
  refine W.any (.move rfl) rfl rfl rfl ?_
  refine W.ef rfl rfl rfl ?_
  refine Ef.call go158 rfl rfl (hd w) ?_
  rintro _ w1_5 ⟨qq, rfl, h1_5⟩
  refine ⟨_, rfl, ?_⟩
  have L1_5 := L0.trans h1_5
  refine W.any (.move rfl) rfl rfl rfl ?_
  refine W.any (.extract rfl rfl) rfl rfl rfl ?_
  refine W.any (.extract rfl rfl) rfl rfl rfl ?_
  refine W.any (.assign rfl) rfl rfl rfl ?_
  refine W.any (.assign rfl) rfl rfl rfl ?_
  refine W.nil ?_
  refine E.thenN ?_
  refine WC.seq ?_
  refine WC.region ?_
  refine W.any (.move rfl) rfl rfl rfl ?_
  refine W.any (.assign rfl) rfl rfl rfl ?_
  refine W.nil ?_
  refine E.thenN ?_
  refine WC.ret ?_
  refine E.ret1 rfl rfl ?_
  exact ⟨rfl, L1_5⟩
end Go.Proofs.Ytfgakofjkldcjaa

namespace Go.Proofs.Ytfgakofjkldcjaa
open Go Go.Sx Go.Num
set_option maxRecDepth 20000
theorem times_ok (a b : Nat) (ha : a < 18446744073709551616) (hb : b < 18446744073709551616) (w : World) : Calls Try.prog 162 #[.int .u64 ((a : Nat) : Int), .int .u64 ((b : Nat) : Int)] w fun e w' => e = .returned (.int .u64 ((a * b % M : Nat) : Int)) ∧ Le w w' := by
  refine enter Try.func162 rfl rfl ?_
  have L0 := Le.refl w
  refine WC.seq ?_
  refine WC.region ?_
  refine W.any (.assign rfl) rfl rfl rfl ?_
  refine W.nil ?_
  refine E.thenN ?_
  refine WC.seq ?_
  refine WC.region ?_
  refine W.any (.move rfl) rfl rfl rfl ?_
  refine W.any (.move rfl) rfl rfl rfl ?_
  refine W.ef rfl rfl rfl ?_
  refine Ef.call go157 rfl rfl (mul64_ok a b ha hb w) ?_
  rintro _ w1_2 ⟨rfl, h1_2⟩
  refine ⟨_, rfl, ?_⟩
  have L1_2 := L0.trans h1_2
  refine W.any (.move rfl) rfl rfl rfl ?_
  refine W.any (.extract rfl rfl) rfl rfl rfl ?_
  refine W.any (.extract rfl rfl) rfl rfl rfl ?_
  refine W.any (.assign rfl) rfl rfl rfl ?_
  refine W.any (.assign rfl) rfl rfl rfl ?_
  refine W.nil ?_
  refine E.thenN ?_
  refine WC.seq ?_
  refine WC.region ?_
  refine W.any (.move rfl) rfl rfl rfl ?_
  refine W.any (.move rfl) rfl rfl rfl ?_
  refine W.ef rfl rfl rfl ?_
  refine Ef.call go163 rfl rfl (rem64_ok (a * b / 18446744073709551616) (a * b % 18446744073709551616) 4611686018427377339 (by decide) (by decide) (Nat.mod_lt _ (by decide)) w1_2) ?_
  rintro _ w2_2 ⟨rfl, h2_2⟩
  refine ⟨_, rfl, ?_⟩
  have L2_2 := L1_2.trans h2_2
  refine W.any (.assign rfl) rfl rfl rfl ?_
  refine W.nil ?_
  refine E.thenN ?_
  refine WC.ret ?_
  refine E.ret1 rfl rfl ?_
  exact ⟨by rw [Nat.div_add_mod']; rfl, L2_2⟩

theorem power_ok (a n : Nat) (ha : a < 18446744073709551616) (hn : n < 18446744073709551616) (w : World) : Calls Try.prog 138 #[.int .u64 ((a : Nat) : Int), .int .u64 ((n : Nat) : Int)] w fun e w' => e = .returned (.int .u64 ((pw a n : Nat) : Int)) ∧ Le w w' := by
  refine enter Try.func138 rfl rfl ?_
  have L0 := Le.refl w
  refine WC.seq ?_
  refine WC.region ?_
  refine W.any (.assign rfl) rfl rfl rfl ?_
  refine W.nil ?_
  refine E.thenN ?_
  refine WC.seq ?_
  refine WC.region ?_
  refine W.any (.assign rfl) rfl rfl rfl ?_
  refine W.nil ?_
  refine E.thenN ?_
  refine WC.seq ?_
  refine WC.block ?_
  refine WC.loop (ι := Nat × Nat × Nat) (fun ⟨b, m, out⟩ => [(0, .int .u64 ((b : Nat) : Int)), (1, .int .u64 ((m : Nat) : Int)), (5, .int .u64 ((out : Nat) : Int))]) (fun ⟨b, m, out⟩ wl => Le w wl ∧ b < 18446744073709551616 ∧ m < 18446744073709551616 ∧ out < M ∧ out * b ^ m % M = pw a n) (fun ⟨b, m, out⟩ => m) (a, n, 1) ?_ ?_ ?_
  · exact .cons rfl (.cons rfl (.cons rfl (.nil _)))
  · exact ⟨L0, ha, hn, M_one, pw_start a n hn⟩
  · rintro ⟨b, m, out⟩ wl ⟨Ll, hb, hm, ho, hi⟩
    refine WC.seq ?_
    refine WC.seq ?_
    refine WC.region ?_
    refine W.any (.move rfl) rfl rfl rfl ?_
    refine W.any (.gtr rfl rfl) rfl rfl rfl ?_
    refine W.nil ?_
    refine E.thenN ?_
    refine WC.cond rfl (fun c0 => ?_) (fun c0 => ?_)
    · have hbb : b * b % M < 18446744073709551616 := Nat.lt_trans (Nat.mod_lt _ (by decide)) (by decide)
      have ho2 : out < 18446744073709551616 := Nat.lt_trans ho (by decide)
      refine WC.skip ?_
      refine E.thenN ?_
      refine WC.seq ?_
      refine WC.block ?_
      refine WC.seq ?_
      refine WC.seq ?_
      refine WC.region ?_
      refine W.any (.move rfl) rfl rfl rfl ?_
      refine W.any (.andE (m) (1) (m % 2) rfl rfl rfl rfl (by omega) (by omega) (mask1 _)) rfl rfl rfl ?_
      refine W.any (.eql rfl rfl) rfl rfl rfl ?_
      refine W.nil ?_
      refine E.thenN ?_
      refine WC.cond rfl (fun c1 => ?_) (fun c1 => ?_)
      · refine WC.region ?_
        refine W.any (.move rfl) rfl rfl rfl ?_
        refine W.any (.move rfl) rfl rfl rfl ?_
        refine W.ef rfl rfl rfl ?_
        refine Ef.call go162 rfl rfl (times_ok out b ho2 hb wl) ?_
        rintro _ w5_2 ⟨rfl, h5_2⟩
        refine ⟨_, rfl, ?_⟩
        have L5_2 := Ll.trans h5_2
        refine W.any (.assign rfl) rfl rfl rfl ?_
        refine W.nil ?_
        refine E.thenN ?_
        refine WC.region ?_
        refine W.any (.move rfl) rfl rfl rfl ?_
        refine W.any (.move rfl) rfl rfl rfl ?_
        refine W.ef rfl rfl rfl ?_
        refine Ef.call go162 rfl rfl (times_ok b b hb hb w5_2) ?_
        rintro _ w6_2 ⟨rfl, h6_2⟩
        refine ⟨_, rfl, ?_⟩
        have L6_2 := L5_2.trans h6_2
        refine W.any (.assign rfl) rfl rfl rfl ?_
        refine W.nil ?_
        refine E.blkN ?_
        refine E.thenN ?_
        refine WC.region ?_
        refine W.any (.move rfl) rfl rfl rfl ?_
        refine W.any (.shrE (m) (1) (m / 2) rfl rfl rfl rfl (by decide) (rfl)) rfl rfl rfl ?_
        refine W.any (.assign rfl) rfl rfl rfl ?_
        refine W.nil ?_
        refine E.again (b * b % M, m / 2, out * b % M) (.cons rfl (.cons rfl (.cons rfl (.nil _)))) ?_ ?_
        · exact ⟨L6_2, hbb, by omega, Nat.mod_lt _ (by decide), by rw [step1 b m out (by omega)]; exact hi⟩
        · first | omega | (simp only []; omega)
      · refine WC.skip ?_
        refine E.thenN ?_
        refine WC.region ?_
        refine W.any (.move rfl) rfl rfl rfl ?_
        refine W.any (.move rfl) rfl rfl rfl ?_
        refine W.ef rfl rfl rfl ?_
        refine Ef.call go162 rfl rfl (times_ok b b hb hb wl) ?_
        rintro _ w6_2 ⟨rfl, h6_2⟩
        refine ⟨_, rfl, ?_⟩
        have L6_2 := Ll.trans h6_2
        refine W.any (.assign rfl) rfl rfl rfl ?_
        refine W.nil ?_
        refine E.blkN ?_
        refine E.thenN ?_
        refine WC.region ?_
        refine W.any (.move rfl) rfl rfl rfl ?_
        refine W.any (.shrE (m) (1) (m / 2) rfl rfl rfl rfl (by decide) (rfl)) rfl rfl rfl ?_
        refine W.any (.assign rfl) rfl rfl rfl ?_
        refine W.nil ?_
        refine E.again (b * b % M, m / 2, out) (.cons rfl (.cons rfl (.cons rfl (.nil _)))) ?_ ?_
        · exact ⟨L6_2, hbb, by omega, ho, by rw [step0 b m out (by omega)]; exact hi⟩
        · first | omega | (simp only []; omega)
    · have hm0 : m = 0 := by omega
      subst hm0
      rw [pw_end b out ho] at hi
      refine WC.exit ?_
      refine E.thenX ?_
      refine E.thenX ?_
      refine E.blkH ?_
      refine E.thenN ?_
      refine WC.seq ?_
      refine WC.region ?_
      refine W.any (.move rfl) rfl rfl rfl ?_
      refine W.any (.assign rfl) rfl rfl rfl ?_
      refine W.nil ?_
      refine E.thenN ?_
      refine WC.ret ?_
      refine E.ret1 rfl rfl ?_
      exact ⟨by rw [hi], Ll⟩

theorem dec1 (x : Nat) : decide ((x : Int) = 1) = decide (x = 1) := decide_eq_decide.2 (by omega)

theorem pright_ok (p : Nat) (hp : p < 18446744073709551616) (w : World) : Calls Try.prog 90 #[.int .u64 ((p : Nat) : Int)] w fun e w' => e = .returned (.bool (right p)) ∧ Le w w' := by
  refine enter Try.func90 rfl rfl ?_
  have L0 := Le.refl w
  refine WC.seq ?_
  refine WC.region ?_
  refine W.any (.assign rfl) rfl rfl rfl ?_
  refine W.nil ?_
  refine E.thenN ?_
  refine WC.seq ?_
  refine WC.region ?_
  refine W.any (.move rfl) rfl rfl rfl ?_
  by_cases h0 : 0 < p
  · refine W.any (.dec (.gtr rfl rfl) (decide_eq_true (by omega))) rfl rfl rfl ?_
    refine W.any (.move rfl) rfl rfl rfl ?_
    refine W.rdg (Any.rd (.move rfl) _) rfl rfl rfl (rfl) rfl rfl ?_
    by_cases h1 : p < 4611686018427377339
    · refine W.rdg (Any.rd (.dec (.lss rfl rfl) (decide_eq_true (by omega))) _) rfl rfl rfl (rfl) rfl rfl ?_
      refine W.any (.pickT rfl rfl rfl) rfl rfl rfl ?_
      refine W.any (.move rfl) rfl rfl rfl ?_
      refine W.rdg (Any.rd (.move rfl) _) rfl rfl rfl (rfl) rfl rfl ?_
      refine W.efg rfl rfl rfl (rfl) rfl rfl ?_
      refine Ef.call go138 rfl rfl (power_ok p 2305843009213688669 hp (by decide) w) ?_
      rintro _ w1_8 ⟨rfl, h1_8⟩
      refine ⟨_, rfl, ?_⟩
      have L1_8 := L0.trans h1_8
      refine W.rdg (Any.rd (.eql rfl rfl) _) rfl rfl rfl (rfl) rfl rfl ?_
      refine W.any (.pickT rfl rfl rfl) rfl rfl rfl ?_
      refine W.any (.assign rfl) rfl rfl rfl ?_
      refine W.nil ?_
      refine E.thenN ?_
      refine WC.ret ?_
      refine E.ret1 rfl rfl ?_
      exact ⟨by rw [right, decide_eq_true h0, decide_eq_true (show p < M from h1), Bool.true_and, Bool.true_and, ← dec1]; rfl, L1_8⟩
    · refine W.rdg (Any.rd (.dec (.lss rfl rfl) (decide_eq_false (by omega))) _) rfl rfl rfl (rfl) rfl rfl ?_
      refine W.any (.pickT rfl rfl rfl) rfl rfl rfl ?_
      refine W.any (.move rfl) rfl rfl rfl ?_
      refine W.skip rfl rfl rfl (rfl) rfl rfl ?_
      refine W.skip rfl rfl rfl (rfl) rfl rfl ?_
      refine W.skip rfl rfl rfl (rfl) rfl rfl ?_
      refine W.any (.pickF rfl rfl rfl) rfl rfl rfl ?_
      refine W.any (.assign rfl) rfl rfl rfl ?_
      refine W.nil ?_
      refine E.thenN ?_
      refine WC.ret ?_
      refine E.ret1 rfl rfl ?_
      exact ⟨by rw [right, decide_eq_false (show ¬ p < M from h1), Bool.and_false, Bool.false_and], L0⟩
  · refine W.any (.dec (.gtr rfl rfl) (decide_eq_false (by omega))) rfl rfl rfl ?_
    refine W.any (.move rfl) rfl rfl rfl ?_
    refine W.skip rfl rfl rfl (rfl) rfl rfl ?_
    refine W.skip rfl rfl rfl (rfl) rfl rfl ?_
    refine W.any (.pickF rfl rfl rfl) rfl rfl rfl ?_
    refine W.any (.move rfl) rfl rfl rfl ?_
    refine W.skip rfl rfl rfl (rfl) rfl rfl ?_
    refine W.skip rfl rfl rfl (rfl) rfl rfl ?_
    refine W.skip rfl rfl rfl (rfl) rfl rfl ?_
    refine W.any (.pickF rfl rfl rfl) rfl rfl rfl ?_
    refine W.any (.assign rfl) rfl rfl rfl ?_
    refine W.nil ?_
    refine E.thenN ?_
    refine WC.ret ?_
    refine E.ret1 rfl rfl ?_
    exact ⟨by rw [right, decide_eq_false h0, Bool.false_and, Bool.false_and], L0⟩

theorem taken_ok (p : Nat) (hp : p < 18446744073709551616) (w : World) : Calls Try.prog 141 #[.int .u64 ((p : Nat) : Int)] w fun e w' => e = .returned (.int .u64 ((taken p : Nat) : Int)) ∧ Le w w' := by
  refine enter Try.func141 rfl rfl ?_
  have L0 := Le.refl w
  refine WC.seq ?_
  refine WC.region ?_
  refine W.any (.assign rfl) rfl rfl rfl ?_
  refine W.nil ?_
  refine E.thenN ?_
  refine WC.seq ?_
  refine WC.seq ?_
  refine WC.region ?_
  refine W.any (.move rfl) rfl rfl rfl ?_
  refine W.ef rfl rfl rfl ?_
  refine Ef.call go90 rfl rfl (pright_ok p hp w) ?_
  rintro _ w1_1 ⟨rfl, h1_1⟩
  refine ⟨_, rfl, ?_⟩
  have L1_1 := L0.trans h1_1
  refine W.nil ?_
  refine E.thenN ?_
  refine WC.condB rfl (fun c0 => ?_) (fun c0 => ?_)
  · refine WC.seq ?_
    refine WC.region ?_
    refine W.any (.move rfl) rfl rfl rfl ?_
    refine W.any (.assign rfl) rfl rfl rfl ?_
    refine W.nil ?_
    refine E.thenN ?_
    refine WC.ret ?_
    refine E.thenR ?_
    refine E.ret1 rfl rfl ?_
    exact ⟨by rw [taken, if_pos c0], L1_1⟩
  · refine WC.skip ?_
    refine E.thenN ?_
    refine WC.seq ?_
    refine WC.region ?_
    refine W.any (.assign rfl) rfl rfl rfl ?_
    refine W.nil ?_
    refine E.thenN ?_
    refine WC.ret ?_
    refine E.ret1 rfl rfl ?_
    exact ⟨by rw [taken, if_neg (by rw [c0]; simp)]; rfl, L1_1⟩

theorem taken_lt (p : Nat) : taken p < 18446744073709551616 := Nat.lt_trans ((right_iff _).1 (right_taken p)).2.1 (by decide)

theorem scale_ok (p k : Nat) (hp : p < 18446744073709551616) (w : World) : Calls Try.prog 93 #[.int .u64 ((p : Nat) : Int), .int .u64 ((k : Nat) : Int)] w fun e w' => e = .returned (.int .u64 ((scale p k : Nat) : Int)) ∧ Le w w' := by
  refine enter Try.func93 rfl rfl ?_
  have L0 := Le.refl w
  refine WC.seq ?_
  refine WC.region ?_
  refine W.any (.assign rfl) rfl rfl rfl ?_
  refine W.nil ?_
  refine E.thenN ?_
  refine WC.seq ?_
  refine WC.region ?_
  refine W.any (.move rfl) rfl rfl rfl ?_
  refine W.ef rfl rfl rfl ?_
  refine Ef.call go141 rfl rfl (taken_ok p hp w) ?_
  rintro _ w1_1 ⟨rfl, h1_1⟩
  refine ⟨_, rfl, ?_⟩
  have L1_1 := L0.trans h1_1
  refine W.any (.move rfl) rfl rfl rfl ?_
  refine W.any (.remN (k) (2305843009213688669) (k % 2305843009213688669) rfl rfl rfl rfl (by decide) (rfl)) rfl rfl rfl ?_
  refine W.ef rfl rfl rfl ?_
  refine Ef.call go138 rfl rfl (power_ok (taken p) (k % 2305843009213688669) (taken_lt p) (by omega) w1_1) ?_
  rintro _ w1_4 ⟨rfl, h1_4⟩
  refine ⟨_, rfl, ?_⟩
  have L1_4 := L1_1.trans h1_4
  refine W.any (.assign rfl) rfl rfl rfl ?_
  refine W.nil ?_
  refine E.thenN ?_
  refine WC.ret ?_
  refine E.ret1 rfl rfl ?_
  exact ⟨rfl, L1_4⟩

theorem base_ok (k : Nat) (w : World) : Calls Try.prog 49 #[.int .u64 ((k : Nat) : Int)] w fun e w' => e = .returned (.int .u64 ((base k : Nat) : Int)) ∧ Le w w' := by
  refine enter Try.func49 rfl rfl ?_
  have L0 := Le.refl w
  refine WC.seq ?_
  refine WC.region ?_
  refine W.any (.assign rfl) rfl rfl rfl ?_
  refine W.nil ?_
  refine E.thenN ?_
  refine WC.seq ?_
  refine WC.region ?_
  refine W.any (.move rfl) rfl rfl rfl ?_
  refine W.ef rfl rfl rfl ?_
  refine Ef.call go93 rfl rfl (scale_ok 4 k (by decide) w) ?_
  rintro _ w1_1 ⟨rfl, h1_1⟩
  refine ⟨_, rfl, ?_⟩
  have L1_1 := L0.trans h1_1
  refine W.any (.assign rfl) rfl rfl rfl ?_
  refine W.nil ?_
  refine E.thenN ?_
  refine WC.ret ?_
  refine E.ret1 rfl rfl ?_
  exact ⟨rfl, L1_1⟩

theorem fright_ok (a : Nat) (w : World) : Calls Try.prog 60 #[.int .u64 ((a : Nat) : Int)] w fun e w' => e = .returned (.bool (decide (a < q))) ∧ Le w w' := by
  refine enter Try.func60 rfl rfl ?_
  have L0 := Le.refl w
  refine WC.seq ?_
  refine WC.region ?_
  refine W.any (.assign rfl) rfl rfl rfl ?_
  refine W.nil ?_
  refine E.thenN ?_
  refine WC.seq ?_
  refine WC.region ?_
  refine W.any (.move rfl) rfl rfl rfl ?_
  refine W.any (.lss rfl rfl) rfl rfl rfl ?_
  refine W.any (.assign rfl) rfl rfl rfl ?_
  refine W.nil ?_
  refine E.thenN ?_
  refine WC.ret ?_
  refine E.ret1 rfl rfl ?_
  exact ⟨congrArg (fun b => Ending.returned (Value.bool b)) (decide_eq_decide.2 (by rw [q_def]; omega)), L0⟩

theorem of_ok (a : Nat) (w : World) : Calls Try.prog 102 #[.int .u64 ((a : Nat) : Int)] w fun e w' => e = .returned (.int .u64 ((a % q : Nat) : Int)) ∧ Le w w' := by
  refine enter Try.func102 rfl rfl ?_
  have L0 := Le.refl w
  refine WC.seq ?_
  refine WC.region ?_
  refine W.any (.assign rfl) rfl rfl rfl ?_
  refine W.nil ?_
  refine E.thenN ?_
  refine WC.seq ?_
  refine WC.region ?_
  refine W.any (.move rfl) rfl rfl rfl ?_
  refine W.any (.remN (a) (2305843009213688669) (a % 2305843009213688669) rfl rfl rfl rfl (by decide) (rfl)) rfl rfl rfl ?_
  refine W.any (.assign rfl) rfl rfl rfl ?_
  refine W.nil ?_
  refine E.thenN ?_
  refine WC.ret ?_
  refine E.ret1 rfl rfl ?_
  exact ⟨rfl, L0⟩

end Go.Proofs.Ytfgakofjkldcjaa

namespace Go.Proofs.Ytfgakofjkldcjaa
open Go Go.Sx
theorem fa33_0 : Fat Try.prog 33 0 0 := ⟨_, _, _, Try.underlying33, rfl, rfl, sz3, by decide⟩
theorem fa33_1 : Fat Try.prog 33 1 1 := ⟨_, _, _, Try.underlying33, rfl, rfl, sz3, by decide⟩
theorem fa33_2 : Fat Try.prog 33 2 2 := ⟨_, _, _, Try.underlying33, rfl, rfl, sz3, by decide⟩
theorem fa33_3 : Fat Try.prog 33 3 3 := ⟨_, _, _, Try.underlying33, rfl, rfl, sz3, by decide⟩
theorem fa33_4 : Fat Try.prog 33 4 4 := ⟨_, _, _, Try.underlying33, rfl, rfl, sz31, by decide⟩
theorem fa33_5 : Fat Try.prog 33 5 5 := ⟨_, _, _, Try.underlying33, rfl, rfl, sz30, by decide⟩
theorem pl33 : Pls Try.prog 33 [(0, 1), (1, 1), (2, 1), (3, 1), (4, 1), (5, 1)] := ⟨_, Try.underlying33, fun w => by simp [sz3.run, sz30.run, sz31.run]⟩
theorem fa35_0 : Fat Try.prog 35 0 0 := ⟨_, _, _, Try.underlying35, rfl, rfl, sz3, by decide⟩
theorem fa35_1 : Fat Try.prog 35 1 1 := ⟨_, _, _, Try.underlying35, rfl, rfl, sz3, by decide⟩
theorem fa35_2 : Fat Try.prog 35 2 2 := ⟨_, _, _, Try.underlying35, rfl, rfl, sz30, by decide⟩
theorem fa35_3 : Fat Try.prog 35 3 3 := ⟨_, _, _, Try.underlying35, rfl, rfl, sz3, by decide⟩
theorem fa35_4 : Fat Try.prog 35 4 4 := ⟨_, _, _, Try.underlying35, rfl, rfl, sz3, by decide⟩
theorem fa35_5 : Fat Try.prog 35 5 5 := ⟨_, _, _, Try.underlying35, rfl, rfl, sz3, by decide⟩
theorem fa35_6 : Fat Try.prog 35 6 6 := ⟨_, _, _, Try.underlying35, rfl, rfl, sz33, by decide⟩
theorem fa35_7 : Fat Try.prog 35 7 12 := ⟨_, _, _, Try.underlying35, rfl, rfl, sz3, by decide⟩
theorem fa57_2 : Fat Try.prog 57 2 2 := ⟨_, _, _, Try.underlying57, rfl, rfl, sz30, by decide⟩
theorem pl57 : Pls Try.prog 57 [(0, 1), (1, 1), (2, 1)] := ⟨_, Try.underlying57, fun w => by simp [sz3.run, sz30.run]⟩
theorem fa117_0 : Fat Try.prog 117 0 0 := ⟨_, _, _, Try.underlying117, rfl, rfl, sz114, by decide⟩
theorem fa117_1 : Fat Try.prog 117 1 1 := ⟨_, _, _, Try.underlying117, rfl, rfl, sz115, by decide⟩
theorem pl117 : Pls Try.prog 117 [(0, 1), (1, 1)] := ⟨_, Try.underlying117, fun w => by simp [sz114.run, sz115.run]⟩
theorem fa126_0 : Fat Try.prog 126 0 0 := ⟨_, _, _, Try.underlying126, rfl, rfl, sz30, by decide⟩
theorem fa126_1 : Fat Try.prog 126 1 1 := ⟨_, _, _, Try.underlying126, rfl, rfl, sz3, by decide⟩
theorem fa126_2 : Fat Try.prog 126 2 2 := ⟨_, _, _, Try.underlying126, rfl, rfl, sz3, by decide⟩
theorem fa126_3 : Fat Try.prog 126 3 3 := ⟨_, _, _, Try.underlying126, rfl, rfl, sz3, by decide⟩
theorem fa126_4 : Fat Try.prog 126 4 4 := ⟨_, _, _, Try.underlying126, rfl, rfl, sz46, by decide⟩
theorem fa126_5 : Fat Try.prog 126 5 5 := ⟨_, _, _, Try.underlying126, rfl, rfl, sz3, by decide⟩
theorem fa126_6 : Fat Try.prog 126 6 6 := ⟨_, _, _, Try.underlying126, rfl, rfl, sz4, by decide⟩
theorem fa126_7 : Fat Try.prog 126 7 7 := ⟨_, _, _, Try.underlying126, rfl, rfl, sz4, by decide⟩
theorem pl126 : Pls Try.prog 126 [(0, 1), (1, 1), (2, 1), (3, 1), (4, 1), (5, 1), (6, 1), (7, 1)] := ⟨_, Try.underlying126, fun w => by simp [sz3.run, sz4.run, sz30.run, sz46.run]⟩
theorem pl135 : Pls Try.prog 135 [(0, 1), (1, 1)] := ⟨_, Try.underlying135, fun w => by simp [sz3.run]⟩
end Go.Proofs.Ytfgakofjkldcjaa

namespace Go.Sx
open Go Go.RowKit
end Go.Sx
namespace Go.Proofs.Ytfgakofjkldcjaa
open Go Go.Sx Go.Hsp Go.Num Go.Osp
set_option maxRecDepth 20000
theorem plus_ok (a b : Nat) (ha : a < 2305843009213688669) (hb : b < 2305843009213688669) (w : World) : Calls Try.prog 103 #[.int .u64 ((a : Nat) : Int), .int .u64 ((b : Nat) : Int)] w fun e w' => e = .returned (.int .u64 (((a + b) % q : Nat) : Int)) ∧ Le w w' := by
  refine enter Try.func103 rfl rfl ?_
  have L0 := Le.refl w
  refine WC.seq ?_
  refine WC.region ?_
  refine W.any (.assign rfl) rfl rfl rfl ?_
  refine W.nil ?_
  refine E.thenN ?_
  refine WC.seq ?_
  refine WC.region ?_
  refine W.any (.move rfl) rfl rfl rfl ?_
  refine W.any (.move rfl) rfl rfl rfl ?_
  refine W.any (.addN (a) (b) (a + b) rfl rfl rfl rfl (Nat.mod_eq_of_lt (by omega))) rfl rfl rfl ?_
  refine W.any (.remN (a + b) (2305843009213688669) ((a + b) % 2305843009213688669) rfl rfl rfl rfl (by decide) (rfl)) rfl rfl rfl ?_
  refine W.any (.assign rfl) rfl rfl rfl ?_
  refine W.nil ?_
  refine E.thenN ?_
  refine WC.ret ?_
  refine E.ret1 rfl rfl ?_
  exact ⟨rfl, L0⟩

theorem fadd_ok (a b : Nat) (w : World) : Calls Try.prog 55 #[.int .u64 ((a : Nat) : Int), .int .u64 ((b : Nat) : Int)] w fun e w' => e = .returned (.int .u64 ((addS a b : Nat) : Int)) ∧ Le w w' := by
  refine enter Try.func55 rfl rfl ?_
  have L0 := Le.refl w
  refine WC.seq ?_
  refine WC.region ?_
  refine W.any (.assign rfl) rfl rfl rfl ?_
  refine W.nil ?_
  refine E.thenN ?_
  refine WC.seq ?_
  refine WC.region ?_
  refine W.any (.move rfl) rfl rfl rfl ?_
  refine W.ef rfl rfl rfl ?_
  refine Ef.call go102 rfl rfl (of_ok a w) ?_
  rintro _ w1_1 ⟨rfl, h1_1⟩
  refine ⟨_, rfl, ?_⟩
  have L1_1 := L0.trans h1_1
  refine W.any (.move rfl) rfl rfl rfl ?_
  refine W.ef rfl rfl rfl ?_
  refine Ef.call go102 rfl rfl (of_ok b w1_1) ?_
  rintro _ w1_3 ⟨rfl, h1_3⟩
  refine ⟨_, rfl, ?_⟩
  have L1_3 := L1_1.trans h1_3
  refine W.ef rfl rfl rfl ?_
  refine Ef.call go103 rfl rfl (plus_ok (a % q) (b % q) (Nat.mod_lt _ (by decide)) (Nat.mod_lt _ (by decide)) w1_3) ?_
  rintro _ w1_4 ⟨rfl, h1_4⟩
  refine ⟨_, rfl, ?_⟩
  have L1_4 := L1_3.trans h1_4
  refine W.any (.assign rfl) rfl rfl rfl ?_
  refine W.nil ?_
  refine E.thenN ?_
  refine WC.ret ?_
  refine E.ret1 rfl rfl ?_
  exact ⟨rfl, L1_4⟩

end Go.Proofs.Ytfgakofjkldcjaa

namespace Go.Proofs.Ytfgakofjkldcjaa
open Go Go.Sx Go.Hsp Go.Num Go.Osp Go.Gsp
set_option maxRecDepth 20000
set_option linter.unusedVariables false
set_option linter.unusedSimpArgs false
def iv (x : Int) : List Value := [.int .i64 x]
theorem iv_row : RowF iv 1 := ⟨fun _ => rfl, fun x v hv => by simp [iv] at hv; subst hv; rfl, by decide⟩
theorem coins_ok (a : Int) (w : World) : Calls Try.prog 129 #[.int .i64 (a)] w fun r w' => r = .returned (.bool (coinB a)) ∧ Le w w' := by
  refine enter Try.func129 rfl rfl ?_
  have L0 := Le.refl w
  refine WC.seq ?_
  refine WC.region ?_
  refine W.any (.assign rfl) rfl rfl rfl ?_
  refine W.nil ?_
  refine E.thenN ?_
  refine WC.seq ?_
  refine WC.region ?_
  refine W.any (.move rfl) rfl rfl rfl ?_
  refine W.any (.geq rfl rfl) rfl rfl rfl ?_
  by_cases q1_2 : 0 ≤ a
  · refine W.any (.dec (.move rfl) (decide_eq_true q1_2)) rfl rfl rfl ?_
    refine W.rdg (Any.rd (.move rfl) _) rfl rfl rfl (rfl) rfl rfl ?_
    refine W.rdg (Any.rd (.leq rfl rfl) _) rfl rfl rfl (rfl) rfl rfl ?_
    refine W.any (.pickT rfl rfl rfl) rfl rfl rfl ?_
    refine W.any (.assign rfl) rfl rfl rfl ?_
    refine W.nil ?_
    refine E.thenN ?_
    refine WC.ret ?_
    refine E.retG1 rfl rfl ?_
    exact ⟨congrArg (fun b => Ending.returned (Value.bool b)) (by simp [coinB, inB, q1_2]), L0⟩
  · refine W.any (.dec (.move rfl) (decide_eq_false q1_2)) rfl rfl rfl ?_
    refine W.skip rfl rfl rfl (rfl) rfl rfl ?_
    refine W.skip rfl rfl rfl (rfl) rfl rfl ?_
    refine W.any (.pickF rfl rfl rfl) rfl rfl rfl ?_
    refine W.any (.assign rfl) rfl rfl rfl ?_
    refine W.nil ?_
    refine E.thenN ?_
    refine WC.ret ?_
    refine E.retG1 rfl rfl ?_
    exact ⟨congrArg (fun b => Ending.returned (Value.bool b)) (by simp [coinB, inB, q1_2]), L0⟩

theorem nadd_ok (a b : Int) (w : World) : Calls Try.prog 75 #[.int .i64 (a), .int .i64 (b)] w fun r w' => r = .returned (.tuple #[.int .i64 (addC a b).1, .bool (addC a b).2]) ∧ Le w w' := by
  refine enter Try.func75 rfl rfl ?_
  have L0 := Le.refl w
  refine WC.seq ?_
  refine WC.region ?_
  refine W.any (.assign rfl) rfl rfl rfl ?_
  refine W.any (.assign rfl) rfl rfl rfl ?_
  refine W.nil ?_
  refine E.thenN ?_
  refine WC.seq ?_
  refine WC.seq ?_
  refine WC.region ?_
  refine W.any (.move rfl) rfl rfl rfl ?_
  refine W.ef rfl rfl rfl ?_
  refine Ef.call go129 rfl rfl (coins_ok a w) ?_
  rintro _ w1_1 ⟨rfl, h1_1⟩
  refine ⟨_, rfl, ?_⟩
  have L1 := L0.trans h1_1
  refine W.any (.not rfl) rfl rfl rfl ?_
  by_cases q1_3 : coinB a = true
  · refine W.any (.dec (.move rfl) (congrArg not (q1_3))) rfl rfl rfl ?_
    refine W.rdg (Any.rd (.move rfl) _) rfl rfl rfl (rfl) rfl rfl ?_
    refine W.efg rfl rfl rfl (rfl) rfl rfl ?_
    refine Ef.call go129 rfl rfl (coins_ok b w1_1) ?_
    rintro _ w1_5 ⟨rfl, h1_5⟩
    refine ⟨_, rfl, ?_⟩
    have L2 := L1.trans h1_5
    refine W.rdg (Any.rd (.not rfl) _) rfl rfl rfl (rfl) rfl rfl ?_
    refine W.any (.pickF rfl rfl rfl) rfl rfl rfl ?_
    by_cases q1_8 : coinB b = true
    · refine W.any (.dec (.move rfl) (congrArg not (q1_8))) rfl rfl rfl ?_
      refine W.rdg (Any.rd (.move rfl) _) rfl rfl rfl (rfl) rfl rfl ?_
      refine W.rdg (Any.rd (.move rfl) _) rfl rfl rfl (rfl) rfl rfl ?_
      have hb1 := inB_T (show inB b 0 1125899906842624 = true by assumption)
      refine W.rdg (Any.rd (.sub rfl rfl (by omega)) _) rfl rfl rfl (rfl) rfl rfl ?_
      refine W.rdg (Any.rd (.gtr rfl rfl) _) rfl rfl rfl (rfl) rfl rfl ?_
      refine W.any (.pickF rfl rfl rfl) rfl rfl rfl ?_
      refine W.nil ?_
      refine E.thenN ?_
      by_cases c0 : (1125899906842624 - b) < a
      · refine WC.condY rfl (decide_eq_true c0) ?_
        refine WC.seq ?_
        refine WC.region ?_
        refine W.any (.assign rfl) rfl rfl rfl ?_
        refine W.any (.assign rfl) rfl rfl rfl ?_
        refine W.nil ?_
        refine E.thenN ?_
        refine WC.ret ?_
        refine E.thenR ?_
        refine E.retG2 rfl rfl rfl ?_
        exact ⟨(by first | rfl | (simp [addC, q1_3, q1_8, c0]; done) | (simp [addC, q1_3, q1_8, c0]; omega) | (simp [addC, q1_3, q1_8, c0]; split <;> first | (exfalso; omega) | (simp; done) | (simp; omega))), L2⟩
      · refine WC.condN rfl (decide_eq_false c0) ?_
        refine WC.skip ?_
        refine E.thenN ?_
        refine WC.seq ?_
        refine WC.region ?_
        refine W.any (.move rfl) rfl rfl rfl ?_
        refine W.any (.move rfl) rfl rfl rfl ?_
        refine W.any (.add rfl rfl (by have := inB_T (show inB a 0 1125899906842624 = true by assumption); have := inB_T (show inB b 0 1125899906842624 = true by assumption); omega)) rfl rfl rfl ?_
        refine W.any (.assign rfl) rfl rfl rfl ?_
        refine W.any (.assign rfl) rfl rfl rfl ?_
        refine W.nil ?_
        refine E.thenN ?_
        refine WC.ret ?_
        refine E.retG2 rfl rfl rfl ?_
        exact ⟨(by first | rfl | (simp [addC, q1_3, q1_8, c0]; done) | (simp [addC, q1_3, q1_8, c0]; omega) | (simp [addC, q1_3, q1_8, c0]; split <;> first | (exfalso; omega) | (simp; done) | (simp; omega))), L2⟩
    · refine W.any (.dec (.move rfl) (congrArg not ((Bool.eq_false_iff.2 q1_8)))) rfl rfl rfl ?_
      refine W.skip rfl rfl rfl (rfl) rfl rfl ?_
      refine W.skip rfl rfl rfl (rfl) rfl rfl ?_
      refine W.skip rfl rfl rfl (rfl) rfl rfl ?_
      refine W.skip rfl rfl rfl (rfl) rfl rfl ?_
      refine W.any (.pickT rfl rfl rfl) rfl rfl rfl ?_
      refine W.nil ?_
      refine E.thenN ?_
      refine WC.condT rfl ?_
      refine WC.seq ?_
      refine WC.region ?_
      refine W.any (.assign rfl) rfl rfl rfl ?_
      refine W.any (.assign rfl) rfl rfl rfl ?_
      refine W.nil ?_
      refine E.thenN ?_
      refine WC.ret ?_
      refine E.thenR ?_
      refine E.retG2 rfl rfl rfl ?_
      exact ⟨(by first | rfl | (simp [addC, q1_3, q1_8]; done) | (simp [addC, q1_3, q1_8]; omega) | (simp [addC, q1_3, q1_8]; split <;> first | (exfalso; omega) | (simp; done) | (simp; omega))), L2⟩
  · refine W.any (.dec (.move rfl) (congrArg not ((Bool.eq_false_iff.2 q1_3)))) rfl rfl rfl ?_
    refine W.skip rfl rfl rfl (rfl) rfl rfl ?_
    refine W.skip rfl rfl rfl (rfl) rfl rfl ?_
    refine W.skip rfl rfl rfl (rfl) rfl rfl ?_
    refine W.any (.pickT rfl rfl rfl) rfl rfl rfl ?_
    refine W.any (.move rfl) rfl rfl rfl ?_
    refine W.skip rfl rfl rfl (rfl) rfl rfl ?_
    refine W.skip rfl rfl rfl (rfl) rfl rfl ?_
    refine W.skip rfl rfl rfl (rfl) rfl rfl ?_
    refine W.skip rfl rfl rfl (rfl) rfl rfl ?_
    refine W.any (.pickT rfl rfl rfl) rfl rfl rfl ?_
    refine W.nil ?_
    refine E.thenN ?_
    refine WC.condT rfl ?_
    refine WC.seq ?_
    refine WC.region ?_
    refine W.any (.assign rfl) rfl rfl rfl ?_
    refine W.any (.assign rfl) rfl rfl rfl ?_
    refine W.nil ?_
    refine E.thenN ?_
    refine WC.ret ?_
    refine E.thenR ?_
    refine E.retG2 rfl rfl rfl ?_
    exact ⟨(by first | rfl | (simp [addC, q1_3]; done) | (simp [addC, q1_3]; omega) | (simp [addC, q1_3]; split <;> first | (exfalso; omega) | (simp; done) | (simp; omega))), L1⟩

end Go.Proofs.Ytfgakofjkldcjaa

namespace Go.Proofs.Ytfgakofjkldcjaa
open Go Go.Sx Go.Hsp Go.Num Go.Osp Go.Gsp
set_option maxRecDepth 20000
set_option linter.unusedSimpArgs false
set_option linter.unusedVariables false
def partV (x : Part) : List Value := [.int .i64 x.ch, .int .i64 x.id, .int .i64 x.am, .int .i64 x.ex, .int .u64 ((x.pt : Nat) : Int), .int .u64 ((x.bl : Nat) : Int)]
theorem partV_row : RowF partV 6 := ⟨fun _ => rfl, fun x v hv => by simp [partV] at hv; rcases hv with rfl | rfl | rfl | rfl | rfl | rfl <;> rfl, by decide⟩
def paidV (x : Paid) : List Value := [.int .i64 x.ch, .int .i64 x.id, .int .u64 ((x.sec : Nat) : Int)]
theorem paidV_row : RowF paidV 3 := ⟨fun _ => rfl, fun x v hv => by simp [paidV] at hv; rcases hv with rfl | rfl | rfl <;> rfl, by decide⟩
def ckV (k : Int × Int) : List Value := [.int .i64 k.1, .int .i64 k.2]
def ikf (x : Int) : Value := .int .i64 x
def ckf (k : Int × Int) : Value := .agg (ckV k).toArray
def ptf (g : Nat) : Value := .pointer (some ⟨g, 0, none⟩)
theorem kint : KeyG Try.prog 3 ikf := KeyG.int Try.underlying3
theorem eqv_ck {d : Nat} (a b : Int × Int) : Eqv Try.prog (d + 2) 135 (ckf a) (ckf b) (decide (a = b)) := by
  have h := Eqv.ints (P := Try.prog) (d := d) (t := 135) (ckV a) (ckV b) [(.i64, 0), (.i64, 1)] (by kernel_rfl) (by kernel_rfl) (by
    rw [show (Try.prog.fieldsOf 135) = _ from (by unfold Program.fieldsOf; rw [Try.underlying135])]
    exact ⟨by decide, rfl, Try.underlying3, ⟨_, _, rfl, rfl⟩, by decide, rfl, Try.underlying3, ⟨_, _, rfl, rfl⟩, trivial⟩)
  have e : eqAll (ckV a) (ckV b) [(.i64, 0), (.i64, 1)] = decide (a = b) := by
    obtain ⟨a1, a2⟩ := a
    obtain ⟨b1, b2⟩ := b
    simp only [eqAll, ckV, List.getElem?_cons_zero, List.getElem?_cons_succ, Prod.mk.injEq]
    rw [Bool.eq_iff_iff]
    simp only [Bool.and_eq_true, decide_eq_true_eq, Bool.and_true]
  rw [e] at h
  exact h
theorem check_ck (b : Bool) (k : Int × Int) (w : World) : ∀ m : Nat, (Instr.checkKey b (m + 2) 135 (ckf k)).run Try.prog w = .ok () w := by
  intro m
  have hi : ∀ (v : Int) (w : World), (Instr.checkKey b (m + 1) 3 (.int .i64 v)).run Try.prog w = .ok () w := fun v w => by unfold Instr.checkKey; simp [run_underlying Try.underlying3]
  have p0 : ∀ w : World, (part 3 (ckV k).toArray 0).run Try.prog w = .ok (.int .i64 k.1) w := run_part1 na3 rfl
  have p1 : ∀ w : World, (part 3 (ckV k).toArray 1).run Try.prog w = .ok (.int .i64 k.2) w := run_part1 na3 rfl
  unfold Instr.checkKey
  simp only [Sem.run_bind, run_underlying Try.underlying135, Result.andThen_ok, ckf]
  simp [p0, p1, hi]
theorem kcond : KeyG Try.prog 135 ckf := KeyG.struct Try.underlying135 (fun b k w => check_ck b k w 9998) (fun k => ⟨_, rfl⟩) (fun a b => eqv_ck (d := 9998) a b)
/-- What is left behind parts are let go. -/
def delK (l : List Part) (m : List (Nat × (Int × Int) × Bool)) : List (Nat × (Int × Int) × Bool) := m.filter fun y => !(l.any fun p => decide (y.2.1 = keyP p))
theorem delK_nil (m : List (Nat × (Int × Int) × Bool)) : delK [] m = m := by simp [delK]
theorem delK_snoc (l : List Part) (k : Nat) (h : k < l.length) (m : List (Nat × (Int × Int) × Bool)) : (delK (l.take k) m).filter (fun y => decide (y.2.1 ≠ ((l.getD k noPart).ch, (l.getD k noPart).id))) = delK (l.take (k + 1)) m := by
  unfold delK
  rw [List.filter_filter, List.take_add_one, getS l noPart h]
  apply List.filter_congr
  intro y _
  rw [List.any_append]
  rw [Bool.eq_iff_iff]
  simp only [Bool.and_eq_true, Bool.not_eq_true', List.any_cons, List.any_nil, Bool.or_false, Bool.or_eq_false_iff, decide_eq_true_eq, Option.toList, decide_eq_false_iff_not, keyP, ne_eq]
  exact ⟨fun h => ⟨h.2, decide_eq_false h.1⟩, fun h => ⟨of_decide_eq_false h.2, h.1⟩⟩
theorem may_ok3 {gp ga gh gq cq ck : Nat} {Aq : Option Addr} {lh : List (Nat × (Int × Int) × Bool)} (p : Pay) (x : Part) (ht : Int) (w : World) (hp : Blk w gp 117 #[.map (some ga), .map (some gh)]) (hq : Blk w gq 126 #[.int .u64 (((p.sec : Nat) : Int)), .int .i64 (p.tot), .int .i64 (p.by_), .int .i64 (p.lst), .slice Aq p.held.length cq, .int .i64 (p.sum), .bool (p.ovr), .bool (p.paid)]) (hM : MapG w ckf Value.bool gh lh ck) (hhl : p.held.length ≤ 1000000) : Calls Try.prog 64 #[.pointer (some ⟨gp, 0, none⟩), .pointer (some ⟨gq, 0, none⟩), .agg (partV x).toArray, .int .i64 (ht)] w fun r w' => r = .returned (.tuple #[.int .i64 (mayP p (fun k => (getG k lh).getD false) x ht).1, .int .i64 (mayP p (fun k => (getG k lh).getD false) x ht).2]) ∧ Le w w' := by
  refine enter Try.func64 rfl rfl ?_
  have L0 := Le.refl w
  refine WC.seq ?_
  refine WC.region ?_
  refine W.ef rfl rfl rfl ?_
  refine Ef.boxA rfl ?_
  intro g0_0 w0_0 hg0_0 b0_0 h0_0
  have L1 := L0.trans h0_0
  have b0_0 : Blk w0_0 g0_0 33 (partV x).toArray := b0_0
  refine W.any (.assign rfl) rfl rfl rfl ?_
  refine W.any (.assign rfl) rfl rfl rfl ?_
  refine W.nil ?_
  refine E.thenN ?_
  refine WC.seq ?_
  refine WC.draw [0, 1, 2, 3, 4, 5, 6, 7, 8, 9, 10, 11] mixed (by kernel_rfl) ?_
  intro w1 d1
  have L2 := L1.trans d1
  refine G.any rfl rfl (.move rfl) rfl rfl rfl ?_
  refine G.any rfl rfl (.nilCheck rfl) rfl rfl rfl ?_
  refine G.any rfl rfl (.field0 fa126_5 rfl) rfl rfl rfl ?_
  refine G.rd rfl rfl (.loadB (v := .int .i64 (p.sum)) na3 rfl (hq.le L2) rfl) rfl rfl rfl ?_
  refine G.any rfl rfl (.field0 fa33_2 rfl) rfl rfl rfl ?_
  have f3 := (b0_0.le d1)
  refine G.rd rfl rfl (.loadB (v := .int .i64 (x.am)) na3 rfl f3 rfl) rfl rfl rfl ?_
  refine G.ef rfl rfl rfl rfl rfl ?_
  refine Ef.call go75 rfl rfl (nadd_ok p.sum x.am w1) ?_
  rintro _ w1_6 ⟨rfl, h1_6⟩
  refine ⟨_, rfl, ?_⟩
  refine ⟨fun _ => h1_6, ?_⟩
  have L4 := L2.trans h1_6
  refine G.any rfl rfl (.move rfl) rfl rfl rfl ?_
  refine G.any rfl rfl (.extract (v := .int .i64 ((addC p.sum x.am).1)) rfl rfl) rfl rfl rfl ?_
  refine G.any rfl rfl (.extract (v := .bool ((addC p.sum x.am).2)) rfl rfl) rfl rfl rfl ?_
  refine G.any rfl rfl (.assign rfl) rfl rfl rfl ?_
  refine G.any rfl rfl (.assign rfl) rfl rfl rfl ?_
  refine G.nil ?_
  refine E.thenN ?_
  refine WC.seq ?_
  refine WC.block ?_
  refine WC.seq ?_
  refine WC.region ?_
  refine W.any (.move rfl) rfl rfl rfl ?_
  refine W.any (.nilCheck rfl) rfl rfl rfl ?_
  refine W.any (.field0 fa126_6 rfl) rfl rfl rfl ?_
  refine W.rd (.loadB (v := .bool (p.ovr)) na4 rfl (hq.le L4) rfl) rfl rfl rfl ?_
  refine W.any (.assign rfl) rfl rfl rfl ?_
  refine W.nil ?_
  refine E.thenN ?_
  by_cases c0 : p.ovr = true
  · refine WC.condY rfl (c0) ?_
    refine WC.seq ?_
    refine WC.region ?_
    refine W.any (.assign rfl) rfl rfl rfl ?_
    refine W.any (.assign rfl) rfl rfl rfl ?_
    refine W.nil ?_
    refine E.thenN ?_
    refine WC.ret ?_
    refine E.blkR ?_
    refine E.thenR ?_
    refine E.retG2 rfl rfl rfl ?_
    have h8 : ((8 : Int) ≤ ↑p.held.length) = (8 ≤ p.held.length) := propext (by omega); (try simp only [ne_eq, Decidable.not_not, Int.natCast_inj, h8] at c0); exact ⟨by unfold mayP opensP keyP; simp [c0]; try omega, L4⟩
  · refine WC.condN rfl ((Bool.eq_false_iff.2 c0)) ?_
    refine WC.seq ?_
    refine WC.region ?_
    refine W.any (.move rfl) rfl rfl rfl ?_
    refine W.any (.move rfl) rfl rfl rfl ?_
    refine W.any (.nilCheck rfl) rfl rfl rfl ?_
    refine W.any (.field0 fa126_2 rfl) rfl rfl rfl ?_
    refine W.rd (.loadB (v := .int .i64 (p.by_)) na3 rfl (hq.le L4) rfl) rfl rfl rfl ?_
    refine W.any (.geq rfl rfl) rfl rfl rfl ?_
    refine W.any (.assign rfl) rfl rfl rfl ?_
    refine W.nil ?_
    refine E.thenN ?_
    by_cases c1 : p.by_ ≤ ht
    · refine WC.condY rfl (decide_eq_true c1) ?_
      refine WC.seq ?_
      refine WC.region ?_
      refine W.any (.assign rfl) rfl rfl rfl ?_
      refine W.any (.assign rfl) rfl rfl rfl ?_
      refine W.nil ?_
      refine E.thenN ?_
      refine WC.ret ?_
      refine E.blkR ?_
      refine E.thenR ?_
      refine E.retG2 rfl rfl rfl ?_
      have h8 : ((8 : Int) ≤ ↑p.held.length) = (8 ≤ p.held.length) := propext (by omega); (try simp only [ne_eq, Decidable.not_not, Int.natCast_inj, h8] at c0); (try simp only [ne_eq, Decidable.not_not, Int.natCast_inj, h8] at c1); exact ⟨by unfold mayP opensP keyP; simp [c0, c1]; try omega, L4⟩
    · refine WC.condN rfl (decide_eq_false c1) ?_
      refine WC.seq ?_
      refine WC.region ?_
      refine W.any (.field0 fa33_2 rfl) rfl rfl rfl ?_
      have f5 := (f3.le h1_6)
      refine W.rd (.loadB (v := .int .i64 (x.am)) na3 rfl f5 rfl) rfl rfl rfl ?_
      refine W.any (.lss rfl rfl) rfl rfl rfl ?_
      by_cases q6_3 : x.am < 1
      · refine W.any (.dec (.move rfl) (decide_eq_true q6_3)) rfl rfl rfl ?_
        refine W.skip rfl rfl rfl (rfl) rfl rfl ?_
        refine W.skip rfl rfl rfl (rfl) rfl rfl ?_
        refine W.skip rfl rfl rfl (rfl) rfl rfl ?_
        refine W.any (.pickT rfl rfl rfl) rfl rfl rfl ?_
        refine W.any (.assign rfl) rfl rfl rfl ?_
        refine W.nil ?_
        refine E.thenN ?_
        refine WC.condT rfl ?_
        refine WC.seq ?_
        refine WC.region ?_
        refine W.any (.assign rfl) rfl rfl rfl ?_
        refine W.any (.assign rfl) rfl rfl rfl ?_
        refine W.nil ?_
        refine E.thenN ?_
        refine WC.ret ?_
        refine E.blkR ?_
        refine E.thenR ?_
        refine E.retG2 rfl rfl rfl ?_
        have h8 : ((8 : Int) ≤ ↑p.held.length) = (8 ≤ p.held.length) := propext (by omega); (try simp only [ne_eq, Decidable.not_not, Int.natCast_inj, h8] at c0); (try simp only [ne_eq, Decidable.not_not, Int.natCast_inj, h8] at c1); (try simp only [ne_eq, Decidable.not_not, Int.natCast_inj, h8] at q6_3); exact ⟨by unfold mayP opensP keyP; simp [c0, c1, q6_3]; try omega, L4⟩
      · refine W.any (.dec (.move rfl) (decide_eq_false q6_3)) rfl rfl rfl ?_
        refine W.rdg (Any.rd (.field0 fa33_2 rfl) _) rfl rfl rfl (rfl) rfl rfl ?_
        refine W.rdg (.loadB (v := .int .i64 (x.am)) na3 rfl f5 rfl) rfl rfl rfl (rfl) rfl rfl ?_
        refine W.rdg (Any.rd (.gtr rfl rfl) _) rfl rfl rfl (rfl) rfl rfl ?_
        refine W.any (.pickF rfl rfl rfl) rfl rfl rfl ?_
        refine W.any (.assign rfl) rfl rfl rfl ?_
        refine W.nil ?_
        refine E.thenN ?_
        by_cases c2 : 1125899906842624 < x.am
        · refine WC.condY rfl (decide_eq_true c2) ?_
          refine WC.seq ?_
          refine WC.region ?_
          refine W.any (.assign rfl) rfl rfl rfl ?_
          refine W.any (.assign rfl) rfl rfl rfl ?_
          refine W.nil ?_
          refine E.thenN ?_
          refine WC.ret ?_
          refine E.blkR ?_
          refine E.thenR ?_
          refine E.retG2 rfl rfl rfl ?_
          have h8 : ((8 : Int) ≤ ↑p.held.length) = (8 ≤ p.held.length) := propext (by omega); (try simp only [ne_eq, Decidable.not_not, Int.natCast_inj, h8] at c0); (try simp only [ne_eq, Decidable.not_not, Int.natCast_inj, h8] at c1); (try simp only [ne_eq, Decidable.not_not, Int.natCast_inj, h8] at q6_3); (try simp only [ne_eq, Decidable.not_not, Int.natCast_inj, h8] at c2); exact ⟨by unfold mayP opensP keyP; simp [c0, c1, q6_3, c2]; try omega, L4⟩
        · refine WC.condN rfl (decide_eq_false c2) ?_
          refine WC.seq ?_
          refine WC.draw [0, 1, 2, 3, 4, 5, 6, 7] mixed (by kernel_rfl) ?_
          intro w8 d8
          have L6 := L4.trans d8
          refine G.any rfl rfl (.field0 fa33_3 rfl) rfl rfl rfl ?_
          have f7 := (f5.le d8)
          refine G.rd rfl rfl (.loadB (v := .int .i64 (x.ex)) na3 rfl f7 rfl) rfl rfl rfl ?_
          refine G.any rfl rfl (.move rfl) rfl rfl rfl ?_
          refine G.any rfl rfl (.nilCheck rfl) rfl rfl rfl ?_
          refine G.any rfl rfl (.field0 fa126_3 rfl) rfl rfl rfl ?_
          refine G.rd rfl rfl (.loadB (v := .int .i64 (p.lst)) na3 rfl (hq.le L6) rfl) rfl rfl rfl ?_
          refine G.any rfl rfl (.lss rfl rfl) rfl rfl rfl ?_
          refine G.any rfl rfl (.assign rfl) rfl rfl rfl ?_
          refine G.nil ?_
          refine E.thenN ?_
          by_cases c3 : x.ex < p.lst
          · refine WC.condY rfl (decide_eq_true c3) ?_
            refine WC.seq ?_
            refine WC.region ?_
            refine W.any (.assign rfl) rfl rfl rfl ?_
            refine W.any (.assign rfl) rfl rfl rfl ?_
            refine W.nil ?_
            refine E.thenN ?_
            refine WC.ret ?_
            refine E.blkR ?_
            refine E.thenR ?_
            refine E.retG2 rfl rfl rfl ?_
            have h8 : ((8 : Int) ≤ ↑p.held.length) = (8 ≤ p.held.length) := propext (by omega); (try simp only [ne_eq, Decidable.not_not, Int.natCast_inj, h8] at c0); (try simp only [ne_eq, Decidable.not_not, Int.natCast_inj, h8] at c1); (try simp only [ne_eq, Decidable.not_not, Int.natCast_inj, h8] at q6_3); (try simp only [ne_eq, Decidable.not_not, Int.natCast_inj, h8] at c2); (try simp only [ne_eq, Decidable.not_not, Int.natCast_inj, h8] at c3); exact ⟨by unfold mayP opensP keyP; simp [c0, c1, q6_3, c2, c3]; try omega, L6⟩
          · refine WC.condN rfl (decide_eq_false c3) ?_
            refine WC.seq ?_
            refine WC.draw [0, 1, 2, 3, 4, 5, 6, 7, 8, 9, 10] mixed (by kernel_rfl) ?_
            intro w10 d10
            have L8 := L6.trans d10
            refine G.any rfl rfl (.move rfl) rfl rfl rfl ?_
            refine G.any rfl rfl (.nilCheck rfl) rfl rfl rfl ?_
            refine G.any rfl rfl (.field0 fa117_1 rfl) rfl rfl rfl ?_
            refine G.rd rfl rfl (.loadB (v := .map (some gh)) na115 rfl (hp.le L8) rfl) rfl rfl rfl ?_
            refine G.any rfl rfl (.field0 fa33_0 rfl) rfl rfl rfl ?_
            have f9 := (f7.le d10)
            refine G.rd rfl rfl (.loadB (v := .int .i64 (x.ch)) na3 rfl f9 rfl) rfl rfl rfl ?_
            refine G.any rfl rfl (.field0 fa33_1 rfl) rfl rfl rfl ?_
            refine G.rd rfl rfl (.loadB (v := .int .i64 (x.id)) na3 rfl f9 rfl) rfl rfl rfl ?_
            refine G.any rfl rfl (.buildP (ckV (x.ch, x.id)) pl135 z135 rfl rfl) rfl rfl rfl ?_
            refine G.rd rfl rfl (.as (.lookup1 (key := (x.ch, x.id)) Try.underlying115 kcond z4 rfl rfl (hM.le L8)) (boolGet _)) rfl rfl rfl ?_
            refine G.any rfl rfl (.assign rfl) rfl rfl rfl ?_
            refine G.nil ?_
            refine E.thenN ?_
            by_cases c4 : (getG (x.ch, x.id) lh).getD false = true
            · refine WC.condY rfl (c4) ?_
              refine WC.seq ?_
              refine WC.region ?_
              refine W.any (.assign rfl) rfl rfl rfl ?_
              refine W.any (.assign rfl) rfl rfl rfl ?_
              refine W.nil ?_
              refine E.thenN ?_
              refine WC.ret ?_
              refine E.blkR ?_
              refine E.thenR ?_
              refine E.retG2 rfl rfl rfl ?_
              have h8 : ((8 : Int) ≤ ↑p.held.length) = (8 ≤ p.held.length) := propext (by omega); (try simp only [ne_eq, Decidable.not_not, Int.natCast_inj, h8] at c0); (try simp only [ne_eq, Decidable.not_not, Int.natCast_inj, h8] at c1); (try simp only [ne_eq, Decidable.not_not, Int.natCast_inj, h8] at q6_3); (try simp only [ne_eq, Decidable.not_not, Int.natCast_inj, h8] at c2); (try simp only [ne_eq, Decidable.not_not, Int.natCast_inj, h8] at c3); (try simp only [ne_eq, Decidable.not_not, Int.natCast_inj, h8] at c4); exact ⟨by unfold mayP opensP keyP; simp [c0, c1, q6_3, c2, c3, c4]; try omega, L8⟩
            · refine WC.condN rfl ((Bool.eq_false_iff.2 c4)) ?_
              refine WC.seq ?_
              refine WC.draw [0, 1, 2, 3, 4, 5, 6, 7, 8, 9, 10, 13, 14, 11, 12, 15, 16, 17] mixed (by kernel_rfl) ?_
              intro w12 d12
              have L10 := L8.trans d12
              refine G.any rfl rfl (.field0 fa33_5 rfl) rfl rfl rfl ?_
              have f11 := (f9.le d12)
              refine G.rd rfl rfl (.loadB (v := .int .u64 (((x.bl : Nat) : Int))) na30 rfl f11 rfl) rfl rfl rfl ?_
              refine G.ef rfl rfl rfl rfl rfl ?_
              refine Ef.call go60 rfl rfl (fright_ok x.bl w12) ?_
              rintro _ w12_2 ⟨rfl, h12_2⟩
              refine ⟨_, rfl, ?_⟩
              refine ⟨fun _ => h12_2, ?_⟩
              have L12 := L10.trans h12_2
              refine G.any rfl rfl (.not rfl) rfl rfl rfl ?_
              by_cases q12_4 : x.bl < q
              · refine G.any rfl rfl (.dec (.move rfl) (congrArg not (decide_eq_true q12_4))) rfl rfl rfl ?_
                refine G.anyg rfl rfl (.move rfl) rfl rfl rfl (rfl) rfl rfl ?_
                refine G.anyg rfl rfl (.nilCheck rfl) rfl rfl rfl (rfl) rfl rfl ?_
                refine G.anyg rfl rfl (.field0 fa126_0 rfl) rfl rfl rfl (rfl) rfl rfl ?_
                refine G.rdg rfl rfl (.loadB (v := .int .u64 (((p.sec : Nat) : Int))) na30 rfl (hq.le L12) rfl) rfl rfl rfl (rfl) rfl rfl ?_
                refine G.anyg rfl rfl (.field0 fa33_5 rfl) rfl rfl rfl (rfl) rfl rfl ?_
                have f13 := (f11.le h12_2)
                refine G.rdg rfl rfl (.loadB (v := .int .u64 (((x.bl : Nat) : Int))) na30 rfl f13 rfl) rfl rfl rfl (rfl) rfl rfl ?_
                refine G.anyg rfl rfl (.field0 fa33_4 rfl) rfl rfl rfl (rfl) rfl rfl ?_
                refine G.rdg rfl rfl (.loadB (v := .int .u64 (((x.pt : Nat) : Int))) na31 rfl f13 rfl) rfl rfl rfl (rfl) rfl rfl ?_
                refine G.efg rfl rfl rfl rfl rfl (rfl) rfl rfl ?_
                refine Ef.call go55 rfl rfl (fadd_ok p.sec x.bl w12_2) ?_
                rintro _ w12_11 ⟨rfl, h12_11⟩
                refine ⟨_, rfl, ?_⟩
                refine ⟨fun _ => h12_11, ?_⟩
                have L14 := L12.trans h12_11
                refine G.efg rfl rfl rfl rfl rfl (rfl) rfl rfl ?_
                refine Ef.call go49 rfl rfl (base_ok (addS p.sec x.bl) w12_11) ?_
                rintro _ w12_12 ⟨rfl, h12_12⟩
                refine ⟨_, rfl, ?_⟩
                refine ⟨fun _ => h12_12, ?_⟩
                have L15 := L14.trans h12_12
                refine G.anyg rfl rfl (.neq rfl rfl) rfl rfl rfl (rfl) rfl rfl ?_
                refine G.any rfl rfl (.pickF rfl rfl rfl) rfl rfl rfl ?_
                refine G.any rfl rfl (.assign rfl) rfl rfl rfl ?_
                refine G.nil ?_
                refine E.thenN ?_
                by_cases c5 : ((base (addS p.sec x.bl) : Nat) : Int) ≠ ((x.pt : Nat) : Int)
                · refine WC.condY rfl (decide_eq_true c5) ?_
                  refine WC.seq ?_
                  refine WC.region ?_
                  refine W.any (.assign rfl) rfl rfl rfl ?_
                  refine W.any (.assign rfl) rfl rfl rfl ?_
                  refine W.nil ?_
                  refine E.thenN ?_
                  refine WC.ret ?_
                  refine E.blkR ?_
                  refine E.thenR ?_
                  refine E.retG2 rfl rfl rfl ?_
                  have h8 : ((8 : Int) ≤ ↑p.held.length) = (8 ≤ p.held.length) := propext (by omega); (try simp only [ne_eq, Decidable.not_not, Int.natCast_inj, h8] at c0); (try simp only [ne_eq, Decidable.not_not, Int.natCast_inj, h8] at c1); (try simp only [ne_eq, Decidable.not_not, Int.natCast_inj, h8] at q6_3); (try simp only [ne_eq, Decidable.not_not, Int.natCast_inj, h8] at c2); (try simp only [ne_eq, Decidable.not_not, Int.natCast_inj, h8] at c3); (try simp only [ne_eq, Decidable.not_not, Int.natCast_inj, h8] at c4); (try simp only [ne_eq, Decidable.not_not, Int.natCast_inj, h8] at q12_4); (try simp only [ne_eq, Decidable.not_not, Int.natCast_inj, h8] at c5); exact ⟨by unfold mayP opensP keyP; simp [c0, c1, q6_3, c2, c3, c4, q12_4, c5]; try omega, L15⟩
                · refine WC.condN rfl (decide_eq_false c5) ?_
                  refine WC.seq ?_
                  refine WC.region ?_
                  refine W.any (.move rfl) rfl rfl rfl ?_
                  refine W.any (.nilCheck rfl) rfl rfl rfl ?_
                  refine W.any (.field0 fa126_4 rfl) rfl rfl rfl ?_
                  refine W.rd (.loadB (v := .slice Aq p.held.length cq) na46 rfl (hq.le L15) rfl) rfl rfl rfl ?_
                  refine W.rd (.len Try.underlying46 rfl) rfl rfl rfl ?_
                  refine W.any (.geq rfl rfl) rfl rfl rfl ?_
                  refine W.any (.assign rfl) rfl rfl rfl ?_
                  refine W.nil ?_
                  refine E.thenN ?_
                  by_cases c6 : 8 ≤ ((p.held.length : Nat) : Int)
                  · refine WC.condY rfl (decide_eq_true c6) ?_
                    refine WC.seq ?_
                    refine WC.region ?_
                    refine W.any (.assign rfl) rfl rfl rfl ?_
                    refine W.any (.assign rfl) rfl rfl rfl ?_
                    refine W.nil ?_
                    refine E.thenN ?_
                    refine WC.ret ?_
                    refine E.blkR ?_
                    refine E.thenR ?_
                    refine E.retG2 rfl rfl rfl ?_
                    have h8 : ((8 : Int) ≤ ↑p.held.length) = (8 ≤ p.held.length) := propext (by omega); (try simp only [ne_eq, Decidable.not_not, Int.natCast_inj, h8] at c0); (try simp only [ne_eq, Decidable.not_not, Int.natCast_inj, h8] at c1); (try simp only [ne_eq, Decidable.not_not, Int.natCast_inj, h8] at q6_3); (try simp only [ne_eq, Decidable.not_not, Int.natCast_inj, h8] at c2); (try simp only [ne_eq, Decidable.not_not, Int.natCast_inj, h8] at c3); (try simp only [ne_eq, Decidable.not_not, Int.natCast_inj, h8] at c4); (try simp only [ne_eq, Decidable.not_not, Int.natCast_inj, h8] at q12_4); (try simp only [ne_eq, Decidable.not_not, Int.natCast_inj, h8] at c5); (try simp only [ne_eq, Decidable.not_not, Int.natCast_inj, h8] at c6); exact ⟨by unfold mayP opensP keyP; simp [c0, c1, q6_3, c2, c3, c4, q12_4, c5, c6]; try omega, L15⟩
                  · refine WC.condN rfl (decide_eq_false c6) ?_
                    refine WC.seq ?_
                    refine WC.region ?_
                    refine W.any (.move rfl) rfl rfl rfl ?_
                    refine W.any (.not rfl) rfl rfl rfl ?_
                    refine W.any (.assign rfl) rfl rfl rfl ?_
                    refine W.nil ?_
                    refine E.thenN ?_
                    by_cases c7 : (addC p.sum x.am).2 = true
                    · refine WC.condN rfl (congrArg not (c7)) ?_
                      refine WC.skip ?_
                      refine E.blkN ?_
                      refine E.thenN ?_
                      refine WC.seq ?_
                      refine WC.region ?_
                      refine W.any (.move rfl) rfl rfl rfl ?_
                      refine W.any (.assign rfl) rfl rfl rfl ?_
                      refine W.any (.assign rfl) rfl rfl rfl ?_
                      refine W.nil ?_
                      refine E.thenN ?_
                      refine WC.ret ?_
                      refine E.retG2 rfl rfl rfl ?_
                      have h8 : ((8 : Int) ≤ ↑p.held.length) = (8 ≤ p.held.length) := propext (by omega); (try simp only [ne_eq, Decidable.not_not, Int.natCast_inj, h8] at c0); (try simp only [ne_eq, Decidable.not_not, Int.natCast_inj, h8] at c1); (try simp only [ne_eq, Decidable.not_not, Int.natCast_inj, h8] at q6_3); (try simp only [ne_eq, Decidable.not_not, Int.natCast_inj, h8] at c2); (try simp only [ne_eq, Decidable.not_not, Int.natCast_inj, h8] at c3); (try simp only [ne_eq, Decidable.not_not, Int.natCast_inj, h8] at c4); (try simp only [ne_eq, Decidable.not_not, Int.natCast_inj, h8] at q12_4); (try simp only [ne_eq, Decidable.not_not, Int.natCast_inj, h8] at c5); (try simp only [ne_eq, Decidable.not_not, Int.natCast_inj, h8] at c6); (try simp only [ne_eq, Decidable.not_not, Int.natCast_inj, h8] at c7); exact ⟨by unfold mayP opensP keyP; simp [c0, c1, q6_3, c2, c3, c4, q12_4, c5, c6, c7]; try omega, L15⟩
                    · refine WC.condY rfl (congrArg not ((Bool.eq_false_iff.2 c7))) ?_
                      refine WC.seq ?_
                      refine WC.region ?_
                      refine W.any (.assign rfl) rfl rfl rfl ?_
                      refine W.any (.assign rfl) rfl rfl rfl ?_
                      refine W.nil ?_
                      refine E.thenN ?_
                      refine WC.ret ?_
                      refine E.blkR ?_
                      refine E.thenR ?_
                      refine E.retG2 rfl rfl rfl ?_
                      have h8 : ((8 : Int) ≤ ↑p.held.length) = (8 ≤ p.held.length) := propext (by omega); (try simp only [ne_eq, Decidable.not_not, Int.natCast_inj, h8] at c0); (try simp only [ne_eq, Decidable.not_not, Int.natCast_inj, h8] at c1); (try simp only [ne_eq, Decidable.not_not, Int.natCast_inj, h8] at q6_3); (try simp only [ne_eq, Decidable.not_not, Int.natCast_inj, h8] at c2); (try simp only [ne_eq, Decidable.not_not, Int.natCast_inj, h8] at c3); (try simp only [ne_eq, Decidable.not_not, Int.natCast_inj, h8] at c4); (try simp only [ne_eq, Decidable.not_not, Int.natCast_inj, h8] at q12_4); (try simp only [ne_eq, Decidable.not_not, Int.natCast_inj, h8] at c5); (try simp only [ne_eq, Decidable.not_not, Int.natCast_inj, h8] at c6); (try simp only [ne_eq, Decidable.not_not, Int.natCast_inj, h8] at c7); exact ⟨by unfold mayP opensP keyP; simp [c0, c1, q6_3, c2, c3, c4, q12_4, c5, c6, c7]; try omega, L15⟩
              · refine G.any rfl rfl (.dec (.move rfl) (congrArg not (decide_eq_false q12_4))) rfl rfl rfl ?_
                refine G.skip rfl rfl rfl rfl (rfl) rfl rfl ?_
                refine G.skip rfl rfl rfl rfl (rfl) rfl rfl ?_
                refine G.skip rfl rfl rfl rfl (rfl) rfl rfl ?_
                refine G.skip rfl rfl rfl rfl (rfl) rfl rfl ?_
                refine G.skip rfl rfl rfl rfl (rfl) rfl rfl ?_
                refine G.skip rfl rfl rfl rfl (rfl) rfl rfl ?_
                refine G.skip rfl rfl rfl rfl (rfl) rfl rfl ?_
                refine G.skip rfl rfl rfl rfl (rfl) rfl rfl ?_
                refine G.skip rfl rfl rfl rfl (rfl) rfl rfl ?_
                refine G.skip rfl rfl rfl rfl (rfl) rfl rfl ?_
                refine G.skip rfl rfl rfl rfl (rfl) rfl rfl ?_
                refine G.any rfl rfl (.pickT rfl rfl rfl) rfl rfl rfl ?_
                refine G.any rfl rfl (.assign rfl) rfl rfl rfl ?_
                refine G.nil ?_
                refine E.thenN ?_
                refine WC.condT rfl ?_
                refine WC.seq ?_
                refine WC.region ?_
                refine W.any (.assign rfl) rfl rfl rfl ?_
                refine W.any (.assign rfl) rfl rfl rfl ?_
                refine W.nil ?_
                refine E.thenN ?_
                refine WC.ret ?_
                refine E.blkR ?_
                refine E.thenR ?_
                refine E.retG2 rfl rfl rfl ?_
                have h8 : ((8 : Int) ≤ ↑p.held.length) = (8 ≤ p.held.length) := propext (by omega); (try simp only [ne_eq, Decidable.not_not, Int.natCast_inj, h8] at c0); (try simp only [ne_eq, Decidable.not_not, Int.natCast_inj, h8] at c1); (try simp only [ne_eq, Decidable.not_not, Int.natCast_inj, h8] at q6_3); (try simp only [ne_eq, Decidable.not_not, Int.natCast_inj, h8] at c2); (try simp only [ne_eq, Decidable.not_not, Int.natCast_inj, h8] at c3); (try simp only [ne_eq, Decidable.not_not, Int.natCast_inj, h8] at c4); (try simp only [ne_eq, Decidable.not_not, Int.natCast_inj, h8] at q12_4); exact ⟨by unfold mayP opensP keyP; simp [c0, c1, q6_3, c2, c3, c4, q12_4]; try omega, L12⟩

theorem clear_ok {gp ga gh gq nq cq ck : Nat} {Aq : Option Addr} {lh : List (Nat × (Int × Int) × Bool)} (p : Pay) (w : World) (hp : Blk w gp 117 #[.map (some ga), .map (some gh)]) (hq : Blk w gq 126 #[.int .u64 (((p.sec : Nat) : Int)), .int .i64 (p.tot), .int .i64 (p.by_), .int .i64 (p.lst), .slice Aq nq cq, .int .i64 (p.sum), .bool (p.ovr), .bool (p.paid)]) (hM : MapG w ckf Value.bool gh lh ck) (hO : OVec w 0 33 partV 6 Aq nq cq p.held) (hhl : nq ≤ 1000000) (n1 : gp ≠ gq) (n2 : gp ≠ gh) (n3 : gq ≠ gh) (n4 : rowOf Aq cq ≠ some gh) (n5 : rowOf Aq cq ≠ some gq) : Calls Try.prog 65 #[.pointer (some ⟨gp, 0, none⟩), .pointer (some ⟨gq, 0, none⟩)] w fun r w' => r = .returned (.slice Aq nq cq) ∧ Blk w' gq 126 #[.int .u64 (((p.sec : Nat) : Int)), .int .i64 (p.tot), .int .i64 (p.by_), .int .i64 (p.lst), .slice none 0 0, .int .i64 (p.sum), .bool true, .bool (p.paid)] ∧ MapG w' ckf Value.bool gh (delK p.held lh) ck ∧ ChP w w' (fun k => k = gq ∨ k = gh) := by
  refine enter Try.func65 rfl rfl ?_
  have L0 := ChP.refl w (fun k => k = gq ∨ k = gh)
  refine WC.seq ?_
  refine WC.region ?_
  refine W.any (.assign rfl) rfl rfl rfl ?_
  refine W.nil ?_
  refine E.thenN ?_
  refine WC.seq ?_
  refine WC.seq ?_
  refine WC.region ?_
  refine W.any (.move rfl) rfl rfl rfl ?_
  refine W.any (.nilCheck rfl) rfl rfl rfl ?_
  refine W.any (.field0 fa126_4 rfl) rfl rfl rfl ?_
  refine W.rd (.loadB (v := .slice Aq nq cq) na46 rfl hq rfl) rfl rfl rfl ?_
  refine W.rd (.len Try.underlying46 rfl) rfl rfl rfl ?_
  refine W.any (.move rfl) rfl rfl rfl ?_
  refine W.nil ?_
  refine E.thenN ?_
  refine WC.block ?_
  refine WC.loop (ι := Nat) (fun k => [(0, .pointer (some ⟨gp, 0, none⟩)), (1, .pointer (some ⟨gq, 0, none⟩)), (10, .slice Aq nq cq), (11, .int .i64 (((nq : Nat) : Int))), (12, .int .i64 (((k : Nat) : Int)))]) (fun k wl0 => (k ≤ nq) ∧ ChP w wl0 (fun k => k = gq ∨ k = gh) ∧ w.heap.size ≤ wl0.heap.size ∧ Blk wl0 gp 117 #[.map (some ga), .map (some gh)] ∧ MapG wl0 ckf Value.bool gh (delK (p.held.take k) lh) ck ∧ Blk wl0 gq 126 #[.int .u64 (((p.sec : Nat) : Int)), .int .i64 (p.tot), .int .i64 (p.by_), .int .i64 (p.lst), .slice Aq nq cq, .int .i64 (p.sum), .bool (p.ovr), .bool (p.paid)] ∧ OVec wl0 0 33 partV 6 Aq nq cq p.held) (fun k => nq - k) 0 ?_ ?_ ?_
  · exact .cons rfl (.cons rfl (.cons rfl (.cons rfl (.cons rfl (.nil _)))))
  · exact ⟨by omega, L0, Nat.le_refl _, hp, (by rw [List.take_zero, delK_nil]; exact hM), hq, hO⟩
  · rintro k wl0 ⟨hk, Ll0, sz0, f0_0, f0_1, f0_2, f0_3⟩
    have hOl := hO.1
    refine WC.seq ?_
    refine WC.region ?_
    refine W.any (.lss rfl rfl) rfl rfl rfl ?_
    refine W.nil ?_
    refine E.thenN ?_
    refine WC.seq ?_
    by_cases c0 : ((k : Nat) : Int) < ((nq : Nat) : Int)
    · refine WC.condY rfl (decide_eq_true c0) ?_
      refine WC.skip ?_
      refine E.thenN ?_
      refine WC.seq ?_
      refine WC.block ?_
      refine WC.seq ?_
      refine WC.region ?_
      refine W.any (.idxS (k) Try.underlying46 sz33 rfl rfl (hO.vec.isSome partV_row (by omega)) (rfl) (by omega)) rfl rfl rfl ?_
      refine W.rd (.vload ag33 rfl f0_3.vec partV_row (getS p.held noPart (by first | omega | (simp only [List.length_cons, List.length_nil]; omega)))) rfl rfl rfl ?_
      refine W.ef rfl rfl rfl ?_
      refine Ef.allocA z33 ?_
      intro g3_2 w3_2 hg3_2 b3_2 h3_2
      have L1 := Ll0.le h3_2
      have b3_2 : Blk w3_2 g3_2 33 (partV noPart).toArray := b3_2
      refine W.ef0 rfl rfl ?_
      refine Ef.storeAll sz33 (by rfl) rfl rfl b3_2 (by rfl) (partV_row.one (p.held.getD k noPart)) ?_
      intro w3_3 b3_3 h3_3
      have b3_3 : Blk w3_3 g3_2 33 (partV (p.held.getD k noPart)).toArray := b3_3
      have L2 : ChP w w3_3 (fun k => k = gq ∨ k = gh) := L1.ch h3_3 (fun i hi hlt => by cases hi; exact absurd hlt (by have := Ll0.size; have := hg3_2; omega))
      refine W.nil ?_
      refine E.thenN ?_
      refine WC.draw [0, 1, 2, 3, 4, 5, 6, 7, 8, 9] mixed (by kernel_rfl) ?_
      intro w4 d4
      have L3 := L2.le d4
      refine G.any rfl rfl (.move rfl) rfl rfl rfl ?_
      refine G.any rfl rfl (.nilCheck rfl) rfl rfl rfl ?_
      refine G.any rfl rfl (.field0 fa117_1 rfl) rfl rfl rfl ?_
      have f4 := (((f0_0.le h3_2).ch h3_3 (fun h => (show g3_2 ≠ gp from by have := f0_0.lt; omega) (Option.some.inj h))).le d4)
      refine G.rd rfl rfl (.loadB (v := .map (some gh)) na115 rfl f4 rfl) rfl rfl rfl ?_
      refine G.any rfl rfl (.field0 fa33_0 rfl) rfl rfl rfl ?_
      have f5 := (b3_3.le d4)
      refine G.rd rfl rfl (.loadB (v := .int .i64 ((p.held.getD k noPart).ch)) na3 rfl f5 rfl) rfl rfl rfl ?_
      refine G.any rfl rfl (.field0 fa33_1 rfl) rfl rfl rfl ?_
      refine G.rd rfl rfl (.loadB (v := .int .i64 ((p.held.getD k noPart).id)) na3 rfl f5 rfl) rfl rfl rfl ?_
      refine G.any rfl rfl (.buildP (ckV ((p.held.getD k noPart).ch, (p.held.getD k noPart).id)) pl135 z135 rfl rfl) rfl rfl rfl ?_
      have f6 := (((f0_1.le h3_2).ch h3_3 (fun h => (show g3_2 ≠ gh from by have := f0_1.lt; omega) (Option.some.inj h))).le d4)
      refine G.ef0 rfl rfl rfl rfl ?_
      refine Ef.deleteG (key := ((p.held.getD k noPart).ch, (p.held.getD k noPart).id)) Try.underlying115 kcond rfl rfl f6 ?_
      intro w4_9 b4_9 h4_9
      refine ⟨fun h => absurd h (ne_true_of_eq_false (by kernel_rfl)), ?_⟩
      have L7 : ChP w w4_9 (fun k => k = gq ∨ k = gh) := L3.ch h4_9 (fun i hi _ => by cases hi; exact Or.inr rfl)
      refine G.nil ?_
      refine E.blkN ?_
      refine E.thenN ?_
      refine WC.region ?_
      refine W.any (.add rfl rfl (by omega)) rfl rfl rfl ?_
      refine W.any (.move rfl) rfl rfl rfl ?_
      refine W.nil ?_
      have f8 := (f4.ch h4_9 (fun h => (Ne.symm n2) (Option.some.inj h)))
      have f9 := ((((f0_2.le h3_2).ch h3_3 (fun h => (show g3_2 ≠ gq from by have := f0_2.lt; omega) (Option.some.inj h))).le d4).ch h4_9 (fun h => (Ne.symm n3) (Option.some.inj h)))
      have f10 := ((((f0_3.le h3_2).ch h3_3 (fun q hq => by cases hq; exact (fun he => by have := (f0_3.row he).2; omega))).le d4).ch h4_9 (fun q hq => by cases hq; exact n4))
      refine E.again (k + 1) (.cons rfl (.cons rfl (.cons rfl (.cons rfl (.cons rfl (.nil _)))))) ?_ ?_
      · exact ⟨by omega, L7, by have := sz0; have := h3_2.size; have := h3_3.size; have := d4.size; have := h4_9.size; omega, f8, (by rw [← delK_snoc p.held k (by have := hO.1; omega)]; exact b4_9), f9, f10⟩
      · first | omega | (simp only []; omega)
    · refine WC.condN rfl (decide_eq_false c0) ?_
      refine WC.exit ?_
      refine E.thenX ?_
      refine E.thenX ?_
      refine E.blkH ?_
      refine E.thenN ?_
      refine WC.seq ?_
      refine WC.region ?_
      refine W.any (.move rfl) rfl rfl rfl ?_
      refine W.any (.move rfl) rfl rfl rfl ?_
      refine W.any (.move rfl) rfl rfl rfl ?_
      refine W.any (.nilCheck rfl) rfl rfl rfl ?_
      refine W.any (.field0 fa126_4 rfl) rfl rfl rfl ?_
      refine W.rd (.loadB (v := .slice Aq nq cq) na46 rfl f0_2 rfl) rfl rfl rfl ?_
      refine W.any (.assign rfl) rfl rfl rfl ?_
      refine W.any (.nilCheck rfl) rfl rfl rfl ?_
      refine W.any (.field0 fa126_4 rfl) rfl rfl rfl ?_
      refine W.ef0 rfl rfl ?_
      refine Ef.store sz46 rfl rfl f0_2 (by first | decide | simp) (rfl) ?_
      intro w6_9 b6_9 h6_9
      have b6_9 : Blk w6_9 gq 126 #[.int .u64 (((p.sec : Nat) : Int)), .int .i64 (p.tot), .int .i64 (p.by_), .int .i64 (p.lst), .slice none 0 0, .int .i64 (p.sum), .bool (p.ovr), .bool (p.paid)] := b6_9
      have L11 : ChP w w6_9 (fun k => k = gq ∨ k = gh) := Ll0.ch h6_9 (fun i hi _ => by cases hi; exact Or.inl rfl)
      refine W.any (.nilCheck rfl) rfl rfl rfl ?_
      refine W.any (.field0 fa126_6 rfl) rfl rfl rfl ?_
      refine W.ef0 rfl rfl ?_
      refine Ef.store sz4 rfl rfl b6_9 (by first | decide | simp) (rfl) ?_
      intro w6_12 b6_12 h6_12
      have b6_12 : Blk w6_12 gq 126 #[.int .u64 (((p.sec : Nat) : Int)), .int .i64 (p.tot), .int .i64 (p.by_), .int .i64 (p.lst), .slice none 0 0, .int .i64 (p.sum), .bool true, .bool (p.paid)] := b6_12
      have L12 : ChP w w6_12 (fun k => k = gq ∨ k = gh) := L11.ch h6_12 (fun i hi _ => by cases hi; exact Or.inl rfl)
      refine W.nil ?_
      refine E.thenN ?_
      refine WC.seq ?_
      refine WC.region ?_
      refine W.any (.move rfl) rfl rfl rfl ?_
      refine W.any (.assign rfl) rfl rfl rfl ?_
      refine W.nil ?_
      refine E.thenN ?_
      refine WC.ret ?_
      have f13 := ((f0_1.ch h6_9 (fun h => n3 (Option.some.inj h))).ch h6_12 (fun h => n3 (Option.some.inj h)))
      refine E.retG1 rfl rfl ?_
      exact ⟨rfl, b6_12, (by have hk2 := hO.1; have e := f13; rw [List.take_of_length_le (by omega)] at e; exact e), L12⟩
end Go.Proofs.Ytfgakofjkldcjaa

set_option linter.unusedSimpArgs false
set_option linter.unusedVariables false
set_option maxRecDepth 20000
namespace Go.Proofs
open Go.Shelf
def Try.keysA_ren : Go.Shelf.Ren := ⟨fun | 7 => 70 | 10 => 124 | n => n, fun | 23 => 114 | 26 => 3 | 3 => 123 | 28 => 142 | 0 => 0 | 27 => 141 | 33 => 121 | 4 => 4 | n => n, fun | n => n⟩
theorem Try.keysA : Go.Proofs.SlLaysZI.n7 Try.prog Try.keysA_ren := {
  mixed := by kernel_rfl
  f7 := ⟨Try.f70.name, by decide, Try.func70.trans (congrArg some (by kernel_rfl))⟩
  f10 := ⟨Try.f124.name, by decide, Try.func124.trans (congrArg some (by kernel_rfl))⟩
  t0 := Try.underlying0
  a0 := Try.isAgg0
  z0 := Try.sizeOf0
  v0 := Try.zeroValue0
  t4 := Try.underlying4
  a4 := Try.isAgg4
  z4 := Try.sizeOf4
  v4 := Try.zeroValue4
  t23 := Try.underlying114
  a23 := Try.isAgg114
  z23 := Try.sizeOf114
  v23 := Try.zeroValue114
  t26 := Try.underlying3
  a26 := Try.isAgg3
  z26 := Try.sizeOf3
  v26 := Try.zeroValue3
  t27 := Try.underlying141
  a27 := Try.isAgg141
  z27 := Try.sizeOf141
  v27 := Try.zeroValue141
  t28 := Try.underlying142
  a28 := Try.isAgg142
  z28 := Try.sizeOf142
  v28 := Try.zeroValue142
  t33 := Try.underlying121
  a33 := Try.isAgg121
  z33 := Try.sizeOf121
  v33 := Try.zeroValue121 }
def Try.sortedA_ren : Go.Shelf.Ren := ⟨fun | 6 => 69 | 8 => 122 | 9 => 123 | 11 => 149 | 13 => 151 | 12 => 150 | 23 => 178 | 24 => 179 | 14 => 169 | 15 => 170 | 16 => 171 | 17 => 172 | 18 => 173 | 19 => 174 | 20 => 175 | 21 => 176 | 22 => 177 | 25 => 185 | 26 => 186 | 27 => 187 | 28 => 188 | 29 => 189 | 30 => 161 | 31 => 191 | n => n, fun | 26 => 3 | 28 => 142 | 24 => 53 | 0 => 0 | 3 => 3 | 37 => 213 | 48 => 194 | 50 => 29 | 4 => 4 | 40 => 233 | 39 => 232 | 45 => 77 | 5 => 5 | 9 => 9 | 51 => 244 | 55 => 248 | 57 => 250 | 58 => 251 | 33 => 121 | n => n, fun | n => n⟩
theorem Try.sortedA : Go.Proofs.SlLaysZI.n6 Try.prog Try.sortedA_ren := {
  mixed := by kernel_rfl
  f6 := ⟨Try.f69.name, by decide, Try.func69.trans (congrArg some (by kernel_rfl))⟩
  f8 := ⟨Try.f122.name, by decide, Try.func122.trans (congrArg some (by kernel_rfl))⟩
  f11 := ⟨Try.f149.name, by decide, Try.func149.trans (congrArg some (by kernel_rfl))⟩
  t0 := Try.underlying0
  a0 := Try.isAgg0
  z0 := Try.sizeOf0
  v0 := Try.zeroValue0
  t24 := Try.underlying53
  a24 := Try.isAgg53
  z24 := Try.sizeOf53
  v24 := Try.zeroValue53
  t26 := Try.underlying3
  a26 := Try.isAgg3
  z26 := Try.sizeOf3
  v26 := Try.zeroValue3
  t28 := Try.underlying142
  a28 := Try.isAgg142
  z28 := Try.sizeOf142
  v28 := Try.zeroValue142
  i26 := by kernel_rfl }
def Try.sortA_ren : Go.Shelf.Ren := ⟨fun | 5 => 123 | 8 => 151 | 7 => 150 | 19 => 178 | 20 => 179 | 10 => 169 | 11 => 170 | 12 => 171 | 13 => 172 | 14 => 173 | 15 => 174 | 16 => 175 | 17 => 176 | 18 => 177 | 30 => 185 | 31 => 186 | 32 => 187 | 33 => 188 | 34 => 189 | 35 => 161 | 40 => 191 | n => n, fun | 23 => 53 | 25 => 3 | 3 => 3 | 32 => 213 | 22 => 53 | 0 => 0 | 44 => 194 | 46 => 29 | 4 => 4 | 36 => 233 | 35 => 232 | 41 => 77 | 5 => 5 | 9 => 9 | 53 => 244 | 57 => 248 | 63 => 250 | 64 => 251 | n => n, fun | n => n⟩
theorem Try.sortA : Go.Proofs.SlLaysM.n5 Try.prog Try.sortA_ren := {
  mixed := by kernel_rfl
  f5 := ⟨Try.f123.name, by decide, Try.func123.trans (congrArg some (by kernel_rfl))⟩
  f7 := ⟨Try.f150.name, by decide, Try.func150.trans (congrArg some (by kernel_rfl))⟩
  f8 := Try.func151.trans (congrArg some (by kernel_rfl))
  f10 := ⟨Try.f169.name, by decide, Try.func169.trans (congrArg some (by kernel_rfl))⟩
  f11 := ⟨Try.f170.name, by decide, Try.func170.trans (congrArg some (by kernel_rfl))⟩
  f12 := ⟨Try.f171.name, by decide, Try.func171.trans (congrArg some (by kernel_rfl))⟩
  f13 := ⟨Try.f172.name, by decide, Try.func172.trans (congrArg some (by kernel_rfl))⟩
  f14 := ⟨Try.f173.name, by decide, Try.func173.trans (congrArg some (by kernel_rfl))⟩
  f15 := ⟨Try.f174.name, by decide, Try.func174.trans (congrArg some (by kernel_rfl))⟩
  f16 := ⟨Try.f175.name, by decide, Try.func175.trans (congrArg some (by kernel_rfl))⟩
  f17 := ⟨Try.f176.name, by decide, Try.func176.trans (congrArg some (by kernel_rfl))⟩
  f18 := ⟨Try.f177.name, by decide, Try.func177.trans (congrArg some (by kernel_rfl))⟩
  f19 := Try.func178.trans (congrArg some (by kernel_rfl))
  f20 := Try.func179.trans (congrArg some (by kernel_rfl))
  f30 := ⟨Try.f185.name, by decide, Try.func185.trans (congrArg some (by kernel_rfl))⟩
  f31 := Try.func186.trans (congrArg some (by kernel_rfl))
  f32 := Try.func187.trans (congrArg some (by kernel_rfl))
  f33 := ⟨Try.f188.name, by decide, Try.func188.trans (congrArg some (by kernel_rfl))⟩
  f34 := ⟨Try.f189.name, by decide, Try.func189.trans (congrArg some (by kernel_rfl))⟩
  f35 := ⟨Try.f161.name, by decide, Try.func161.trans (congrArg some (by kernel_rfl))⟩
  f40 := ⟨Try.f191.name, by decide, Try.func191.trans (congrArg some (by kernel_rfl))⟩
  t0 := Try.underlying0
  a0 := Try.isAgg0
  z0 := Try.sizeOf0
  v0 := Try.zeroValue0
  t3 := Try.underlying3
  a3 := Try.isAgg3
  z3 := Try.sizeOf3
  v3 := Try.zeroValue3
  t4 := Try.underlying4
  a4 := Try.isAgg4
  z4 := Try.sizeOf4
  v4 := Try.zeroValue4
  t5 := Try.underlying5
  a5 := Try.isAgg5
  z5 := Try.sizeOf5
  v5 := Try.zeroValue5
  t9 := Try.underlying9
  a9 := Try.isAgg9
  z9 := Try.sizeOf9
  v9 := Try.zeroValue9
  t22 := Try.underlying53
  a22 := Try.isAgg53
  z22 := Try.sizeOf53
  v22 := Try.zeroValue53
  t23 := Try.underlying53
  a23 := Try.isAgg53
  z23 := Try.sizeOf53
  v23 := Try.zeroValue53
  t25 := Try.underlying3
  a25 := Try.isAgg3
  z25 := Try.sizeOf3
  v25 := Try.zeroValue3
  t32 := Try.underlying213
  a32 := Try.isAgg213
  z32 := Try.sizeOf213
  v32 := Try.zeroValue213
  t35 := Try.underlying232
  a35 := Try.isAgg232
  z35 := Try.sizeOf232
  v35 := Try.zeroValue232
  t36 := Try.underlying233
  a36 := Try.isAgg233
  z36 := Try.sizeOf233
  v36 := Try.zeroValue233
  t41 := Try.underlying77
  a41 := Try.isAgg77
  z41 := Try.sizeOf77
  v41 := Try.zeroValue77
  t44 := Try.underlying194
  a44 := Try.isAgg194
  z44 := Try.sizeOf194
  v44 := Try.zeroValue194
  t46 := Try.underlying29
  a46 := Try.isAgg29
  z46 := Try.sizeOf29
  v46 := Try.zeroValue29
  t53 := Try.underlying244
  a53 := Try.isAgg244
  z53 := Try.sizeOf244
  v53 := Try.zeroValue244
  t57 := Try.underlying248
  a57 := Try.isAgg248
  z57 := Try.sizeOf248
  v57 := Try.zeroValue248
  t63 := Try.underlying250
  a63 := Try.isAgg250
  z63 := Try.sizeOf250
  v63 := Try.zeroValue250
  t64 := Try.underlying251
  a64 := Try.isAgg251
  z64 := Try.sizeOf251
  v64 := Try.zeroValue251 }
end Go.Proofs
namespace Go.Proofs.Ytfgakofjkldcjaa
open Go Go.Sx Go.Hsp Go.Num Go.Osp Go.Gsp Go.RowKit Go.Maps Go.Sort Go.Shelf
theorem sortsA (m : Nat) : AnyZI.SortsIn Try.prog Try.sortedA_ren Fence.wide m :=
  ⟨fun blk off cap ss W hH hblk hsz => callsIn_wide.2 (AnyM.slices_Sort_int Try.sortA blk off cap ss W hH hblk hsz),
   fun p cap W => callsIn_wide.2 (AnyM.slices_Sort_int_none Try.sortA p cap W)⟩
theorem keys_ok (ga : Nat) (w : World) : Calls Try.prog 70 #[.map (some ga)] w fun r w' => r = .returned (.func (.func 124) #[] #[.pointer (some ⟨w.heap.size, 0, none⟩)]) ∧ Blk w' w.heap.size 114 #[.map (some ga)] ∧ Le w w' := by
  have h := callsIn_wide.1 (AnyZI.keys_in Try.keysA Fence.wide 5 trivial rfl (some ga) w)
  refine Calls.mono h ?_
  rintro e w' ⟨rfl, rfl⟩
  exact ⟨rfl, Blk.new w _ _, (Below.refl _ w).alloc (Nat.le_refl _) _⟩
/-- Keys that a reader reads. -/
def inI (x : Int) : Prop := -9223372036854775808 ≤ x ∧ x ≤ 9223372036854775807
theorem inI_wf {x : Int} (h : inI x) : (Lit.int .i64 x).wf = true := by
  unfold inI at h
  have h1 : IntKind.i64.min = -9223372036854775808 := by decide
  have h2 : IntKind.i64.max = 9223372036854775807 := by decide
  simp only [Lit.wf, h1, h2, decide_eq_true_eq, Bool.and_eq_true]
  omega
abbrev noR : Value → Option (DataW Unit × List MemPlace) := fun _ => some (.nil, [])
def mapD (la : List (Nat × Int × Nat)) : DataW Unit := .map ((la.map fun x => (Lit.int .i64 x.2.1, (DataW.nil : DataW Unit))).foldr DataW.insert [])
theorem rd_key1 {x : Nat × Int × Nat} (h : inI x.2.1) : Go.WideElems.rd Try.prog 3 noR (entG ikf ptf x) = some (Lit.int .i64 x.2.1, .nil) := by
  have hk : keyOf Try.prog 3 (Value.int .i64 x.2.1) = some (Lit.int .i64 x.2.1) := by
    unfold keyOf
    rw [Try.underlying3]
    simp [mapKey, Try.underlying3, inI_wf h]
  unfold Go.WideElems.rd
  simp only [entG, ikf, hk]
  rfl
theorem mapOwn {ga ca : Nat} {la : List (Nat × Int × Nat)} {w : World} (hM : MapG w ikf ptf ga la ca) (hr : ∀ x ∈ la, inI x.2.1) (hl : la.length ≤ 1000000) : w.ownsMap Try.prog 3 noR ga la.length (mapD la) := by
  refine ⟨_, _, hM.1, ⟨by simp; unfold maxLen; omega, ⟨?_, ?_, ?_⟩, ?_⟩, by simp, ?_⟩
  · intro x hx
    simp only [List.mem_map] at hx
    obtain ⟨y, hy, rfl⟩ := hx
    exact hM.2.old y hy
  · have := hM.2.borns
    simpa [List.map_map, Function.comp_def, entG] using this
  · have h := hM.2.keys
    have e : (la.map (entG ikf ptf)).map (fun x => x.key) = (la.map fun x => x.2.1).map ikf := by simp [List.map_map, Function.comp_def, entG]
    simp only
    rw [e]
    exact List.Pairwise.map _ (fun a b hab he => hab (by simpa [ikf] using he)) h
  · intro x hx
    simp only [List.mem_map] at hx
    obtain ⟨y, hy, rfl⟩ := hx
    exact ⟨_, rd_key1 (hr y hy)⟩
  · unfold mapD
    congr 2
    simp only [List.map_map]
    apply List.map_congr_left
    intro x hx
    simp only [Function.comp, Go.WideElems.rg, rd_key1 (hr x hx)]
    rfl
theorem mapD_size (la : List (Nat × Int × Nat)) : Maps.size (mapD la) = la.length := by
  unfold mapD
  rw [Maps.size_eq, (Go.WideShapes.sorted_perm _).length_eq]
  simp
theorem mapD_keys (la : List (Nat × Int × Nat)) : (intKeys (mapD la)).Perm (la.map fun x => x.2.1) := by
  unfold mapD intKeys
  refine ((Go.WideShapes.sorted_perm _).map _).trans ?_
  rw [List.map_map]
  exact List.Perm.refl _
theorem sorted_ok {ga ca gk : Nat} {la : List (Nat × Int × Nat)} (w : World) (hB : Blk w gk 114 #[.map (some ga)]) (hM : MapG w ikf ptf ga la ca) (hr : ∀ x ∈ la, inI x.2.1) (hl : la.length ≤ 1000000) :
    Calls Try.prog 69 #[.func (.func 124) #[] #[.pointer (some ⟨gk, 0, none⟩)]] w fun r w' => ∃ (A : Option Addr) (c : Nat) (ns : List Int), r = .returned (.slice A la.length c) ∧ ns.Perm (la.map fun x => x.2.1) ∧ ns.Pairwise (· ≤ ·) ∧ OVec w' w.heap.size 3 iv 1 A la.length c ns ∧ Le w w' := by
  have hown := mapOwn hM hr hl
  have hseq : SeqGives Fence.wide 2 Try.prog 124 #[.pointer (some ⟨gk, 0, none⟩)] encZ (fun ss => ss.Perm (intKeys (mapD la))) (Maps.size (mapD la)) w :=
    AnyZI.keys_gives (ρ := Try.keysA_ren) { Try.keysA with } Fence.wide _ trivial rfl (by omega) gk ga la.length (mapD la) _ hB.lt (by unfold World.cell?; rw [show w.heap[gk]? = _ from hB]; rfl) hown
  have cS := AnyZI.sorted_in Try.sortedA Fence.wide 5 trivial trivial trivial trivial rfl (by omega) (sortsA _) (enters_of Try.func123 (by kernel_rfl) rfl) 124 #[.pointer (some ⟨gk, 0, none⟩)] trivial (enters_of Try.func124 (by kernel_rfl) rfl) _ _ (by rw [mapD_size]; unfold maxLen; omega) (by rw [mapD_size]; omega) _ hseq
  change CallsIn _ _ Try.prog 69 _ _ _ at cS
  refine Calls.mono (callsIn_wide.1 cS) ?_
  rintro e w' ⟨v, ss, rfl, hS, hrow, hnil, hb⟩
  have hp : ss.Perm (la.map fun x => x.2.1) := hS.trans (mapD_keys la)
  have hlen : ss.length = la.length := by rw [hp.length_eq, List.length_map]
  have hms : (ss.mergeSort (fun x y => decide (x ≤ y))).Perm (la.map fun x => x.2.1) := (List.mergeSort_perm _ _).trans hp
  have hpw : (ss.mergeSort (fun x y => decide (x ≤ y))).Pairwise (· ≤ ·) := by
    have := List.pairwise_mergeSort (le := fun x y : Int => decide (x ≤ y)) (by intro a b c; simp; omega) (by intro a b; simp; omega) ss
    exact this.imp (by intro a b h; simpa using h)
  obtain ⟨h1, h2⟩ := hrow
  rcases h2 with ⟨rfl, h0⟩ | ⟨g, cap, cur, rfl, hg, hc, hn, hm, hz, ht⟩
  · have e0 : la.length = 0 := by omega
    have hs0 : ss = [] := List.length_eq_zero_iff.1 h0
    subst hs0
    rw [e0]
    exact ⟨none, 0, [], rfl, by simpa using hms, List.Pairwise.nil, OVec.nil _ _ _ _ _ _, hb⟩
  · rw [hlen] at h1 hn ht ⊢
    exact ⟨some ⟨g, 0, none⟩, cap, _, rfl, hms, hpw, Own.ovec ⟨h1, .inr ⟨g, cur, rfl, hg, hc, hn, hm, hz, ht⟩⟩, hb⟩
end Go.Proofs.Ytfgakofjkldcjaa

namespace Go.Gsp
set_option linter.unusedSimpArgs false
set_option linter.unusedVariables false
open Go.Osp Go.Num
abbrev PSt := List (Int × Pay)
def insP (x : Int × Pay) : PSt → PSt
  | [] => [x]
  | y :: l => if y.1 < x.1 then y :: insP x l else x :: y :: l
def srtP (l : PSt) : PSt := l.foldl (fun s x => insP x s) []
theorem insP_perm (x : Int × Pay) : ∀ l : PSt, (insP x l).Perm (x :: l)
  | [] => List.Perm.refl _
  | y :: l => by
    unfold insP
    split
    · exact ((insP_perm x l).cons y).trans (List.Perm.swap x y l)
    · exact List.Perm.refl _
theorem insP_map (f : Int × Pay → Int × Pay) (hf : ∀ y, (f y).1 = y.1) (x : Int × Pay) : ∀ l : PSt, insP (f x) (l.map f) = (insP x l).map f
  | [] => rfl
  | y :: l => by
    simp only [List.map_cons, insP, hf]
    split
    · simp only [List.map_cons, insP_map f hf x l]
    · rfl
theorem foldl_map (f : Int × Pay → Int × Pay) (hf : ∀ y, (f y).1 = y.1) : ∀ (l s : PSt), (l.map f).foldl (fun s x => insP x s) (s.map f) = (l.foldl (fun s x => insP x s) s).map f
  | [], _ => rfl
  | x :: l, s => by
    simp only [List.map_cons, List.foldl_cons]
    rw [insP_map f hf, foldl_map f hf l]
theorem srtP_map (f : Int × Pay → Int × Pay) (hf : ∀ y, (f y).1 = y.1) (l : PSt) : srtP (l.map f) = (srtP l).map f := foldl_map f hf l []
theorem srtP_snoc (l : PSt) (x : Int × Pay) : srtP (l ++ [x]) = insP x (srtP l) := by simp [srtP, List.foldl_append]
theorem foldl_perm : ∀ (l s : PSt), (l.foldl (fun s x => insP x s) s).Perm (l ++ s)
  | [], _ => List.Perm.refl _
  | x :: l, s => by
    simp only [List.foldl_cons, List.cons_append]
    exact (foldl_perm l (insP x s)).trans (((insP_perm x s).append_left l).trans List.perm_middle)
theorem srtP_perm (l : PSt) : (srtP l).Perm l := by
  have := foldl_perm l []
  rw [List.append_nil] at this
  exact this
def Srt (l : PSt) : Prop := l.Pairwise fun a b => a.1 ≤ b.1
theorem insP_srt (x : Int × Pay) : ∀ l : PSt, Srt l → Srt (insP x l)
  | [], _ => by simp [insP, Srt]
  | y :: l, h => by
    unfold Srt at h
    rw [List.pairwise_cons] at h
    unfold insP
    split
    · rename_i hlt
      unfold Srt
      rw [List.pairwise_cons]
      refine ⟨fun z hz => ?_, insP_srt x l h.2⟩
      rcases List.mem_cons.1 ((insP_perm x l).mem_iff.1 hz) with rfl | hz
      · omega
      · exact h.1 z hz
    · rename_i hlt
      unfold Srt
      rw [List.pairwise_cons, List.pairwise_cons]
      refine ⟨fun z hz => ?_, h.1, h.2⟩
      rcases List.mem_cons.1 hz with rfl | hz
      · omega
      · have := h.1 z hz; omega
/-- Rows in order that hold the same numbers are the same. -/
theorem sorted_one : ∀ {a b : List Int}, a.Perm b → a.Pairwise (· ≤ ·) → b.Pairwise (· ≤ ·) → a = b
  | [], b, h, _, _ => (List.Perm.nil_eq h)
  | x :: a, [], h, _, _ => absurd h.length_eq (by simp)
  | x :: a, y :: b, h, ha, hb => by
    rw [List.pairwise_cons] at ha hb
    have h1 : x = y := by
      have hx : x ∈ y :: b := h.mem_iff.1 (List.mem_cons_self)
      have hy : y ∈ x :: a := h.mem_iff.2 (List.mem_cons_self)
      rcases List.mem_cons.1 hx with h1 | h1
      · exact h1
      · rcases List.mem_cons.1 hy with h2 | h2
        · exact h2.symm
        · have := ha.1 y h2; have := hb.1 x h1; omega
    subst h1
    rw [sorted_one (List.Perm.cons_inv h) ha.2 hb.2]
def getP (n : Int) (s : PSt) : Option Pay := (s.find? fun y => decide (y.1 = n)).map (·.2)
theorem getP_mem {n : Int} {s : PSt} {p : Pay} (h : getP n s = some p) : (n, p) ∈ s := by
  unfold getP at h
  cases hf : s.find? (fun y => decide (y.1 = n)) with
  | none => rw [hf] at h; cases h
  | some y =>
    rw [hf] at h
    have h1 := List.mem_of_find?_eq_some hf
    have h2 := List.find?_some hf
    simp at h h2
    obtain ⟨a, b⟩ := y
    simp at h h2
    subst h2 h
    exact h1
theorem getP_none {n : Int} {s : PSt} : getP n s = none ↔ ∀ y ∈ s, y.1 ≠ n := by
  unfold getP
  rw [Option.map_eq_none_iff, List.find?_eq_none]
  simp
theorem nodup_fst {s : PSt} (h : (s.map (·.1)).Nodup) {n : Int} {p q : Pay} (hp : (n, p) ∈ s) (hq : (n, q) ∈ s) : p = q := by
  induction s with
  | nil => cases hp
  | cons y s ih =>
    simp only [List.map_cons, List.nodup_cons] at h
    rcases List.mem_cons.1 hp with h1 | h1 <;> rcases List.mem_cons.1 hq with h2 | h2
    · have := h1.trans h2.symm; simpa using this
    · exact absurd (List.mem_map.2 ⟨(n, q), h2, by rw [← h1]⟩) h.1
    · exact absurd (List.mem_map.2 ⟨(n, p), h1, by rw [← h2]⟩) h.1
    · exact ih h.2 h1 h2
theorem getP_of {s : PSt} (h : (s.map (·.1)).Nodup) {n : Int} {p : Pay} (hp : (n, p) ∈ s) : getP n s = some p := by
  cases e : getP n s with
  | none => exact absurd rfl (getP_none.1 e _ hp)
  | some q => rw [nodup_fst h (getP_mem e) hp]
def updP (n : Int) (p : Pay) (s : PSt) : PSt := s.map fun y => if y.1 = n then (n, p) else y
theorem updP_fst (n : Int) (p : Pay) (y : Int × Pay) : (if y.1 = n then (n, p) else y).1 = y.1 := by
  by_cases h : y.1 = n
  · rw [if_pos h]; exact h.symm
  · rw [if_neg h]
theorem updP_names (n : Int) (p : Pay) (s : PSt) : (updP n p s).map (·.1) = s.map (·.1) := by
  unfold updP
  rw [List.map_map]
  apply List.map_congr_left
  intro y _
  exact updP_fst n p y
theorem getP_upd {n m : Int} {p q : Pay} {s : PSt} (h : getP n s = some q) : getP m (updP n p s) = if m = n then some p else getP m s := by
  unfold getP updP
  induction s with
  | nil => cases h
  | cons y s ih =>
    unfold getP at h
    simp only [List.map_cons, List.find?_cons] at h ⊢
    by_cases hy : y.1 = n
    · simp only [hy, if_true]
      by_cases hm : m = n
      · simp [hm]
      · have h1 : ¬ (n = m) := fun e => hm e.symm
        simp only [h1, decide_false, hm, if_false]
        have : ∀ (l : PSt), (l.map fun y => if y.1 = n then (n, p) else y).find? (fun y => decide (y.1 = m)) = l.find? (fun y => decide (y.1 = m)) := by
          intro l
          induction l with
          | nil => rfl
          | cons z l il =>
            simp only [List.map_cons, List.find?_cons, il]
            by_cases hz : z.1 = n
            · have h2 : ¬ (z.1 = m) := fun e => h1 (hz.symm.trans e)
              simp [hz, h1]
            · simp [hz]
        rw [this]
    · simp only [hy, if_false, decide_false] at h ⊢
      have := ih (by unfold getP; exact h)
      by_cases hm : y.1 = m
      · have : ¬ m = n := fun e => hy (hm.trans e)
        simp [hm, this]
      · simp only [hm, decide_false]
        exact this
def hkS (s : PSt) (k : Int × Int) : Bool := s.any fun y => y.2.held.any fun x => decide (keyP x = k)
def dueP (ht : Int) (p : Pay) : Bool := !p.ovr && decide (p.by_ ≤ ht)
def lateP (ht : Int) (p : Pay) : Pay := if dueP ht p then { p with held := [], ovr := true } else p
def wantOk (nm : Int) (sc : Nat) (to by_ le : Int) : Prop := 0 ≤ nm ∧ sc ≠ 0 ∧ sc < q ∧ 1 ≤ to ∧ to ≤ 1125899906842624 ∧ 0 ≤ by_ ∧ by_ ≤ 1048576 ∧ 0 ≤ le ∧ le ≤ 1048576
instance wantOk_dec (nm : Int) (sc : Nat) (to by_ le : Int) : Decidable (wantOk nm sc to by_ le) := by unfold wantOk; infer_instance
def newP (sc : Nat) (to by_ le : Int) : Pay := ⟨sc, to, by_, le, [], 0, false, false⟩
def wantS (s : PSt) (nm : Int) (sc : Nat) (to by_ le : Int) : PSt × Int :=
  if wantOk nm sc to by_ le then if (getP nm s).isSome then (s, 4) else (insP (nm, newP sc to by_ le) s, 0) else (s, 1)
def addT (s : PSt) (nm : Int) (x : Part) (ht : Int) : PSt × List Paid × Int :=
  match getP nm s with
  | none => (s, [], 5)
  | some p =>
    if (mayP p (hkS s) x ht).2 ≠ 0 then (s, [], (mayP p (hkS s) x ht).2)
    else if (mayP p (hkS s) x ht).1 < p.tot then (updP nm { p with held := p.held ++ [x], sum := (mayP p (hkS s) x ht).1 } s, [], 0)
    else (updP nm { p with held := [], sum := (mayP p (hkS s) x ht).1, ovr := true, paid := true } s, (p.held ++ [x]).map (paidOf p.sec), 0)
def lateS (s : PSt) (ht : Int) : PSt × List Part := (s.map fun y => (y.1, lateP ht y.2), s.flatMap fun y => if dueP ht y.2 then y.2.held else [])
def heldP (s : PSt) (nm : Int) : List Part := ((getP nm s).map (·.held)).getD []
def overP (s : PSt) (nm : Int) : Bool × Bool := ((getP nm s).map fun p => (p.ovr, p.paid)).getD (false, false)
def sumP (l : List Part) : Int := (l.map (·.am)).sum
/-- What a payment keeps. -/
structure PayOk (p : Pay) : Prop where
  few : p.held.length ≤ 8
  sum : p.ovr = false → p.sum = sumP p.held
  low : ∀ x ∈ p.held, 1 ≤ x.am
  top : p.ovr = false → sumP p.held ≤ 1125899906842624
  gone : p.ovr = true → p.held = []
/-- What a pool keeps. -/
structure GoodP (s : PSt) : Prop where
  names : (s.map (·.1)).Nodup
  srt : Srt s
  nat : ∀ y ∈ s, 0 ≤ y.1 ∧ y.1 ≤ 9223372036854775807
  pay : ∀ y ∈ s, PayOk y.2
  keys : (s.flatMap fun y => y.2.held.map keyP).Nodup
def keysS (s : PSt) : List (Int × Int) := s.flatMap fun y => y.2.held.map keyP
theorem hkS_iff (s : PSt) (k : Int × Int) : hkS s k = true ↔ k ∈ keysS s := by
  unfold hkS keysS
  rw [List.any_eq_true, List.mem_flatMap]
  constructor
  · rintro ⟨y, hy, h⟩
    rw [List.any_eq_true] at h
    obtain ⟨x, hx, e⟩ := h
    exact ⟨y, hy, List.mem_map.2 ⟨x, hx, by simpa using e⟩⟩
  · rintro ⟨y, hy, h⟩
    obtain ⟨x, hx, e⟩ := List.mem_map.1 h
    exact ⟨y, hy, List.any_eq_true.2 ⟨x, hx, by simpa using e⟩⟩
theorem keysS_app (a b : PSt) : keysS (a ++ b) = keysS a ++ keysS b := by simp [keysS, List.flatMap_append]
theorem keysS_cons (y : Int × Pay) (b : PSt) : keysS (y :: b) = y.2.held.map keyP ++ keysS b := by simp [keysS, List.flatMap_cons]
theorem getP_split {n : Int} {p : Pay} : ∀ {s : PSt}, (s.map (·.1)).Nodup → getP n s = some p → ∃ a b, s = a ++ (n, p) :: b ∧ ∀ p', updP n p' s = a ++ (n, p') :: b
  | [], _, h => by cases h
  | y :: s, hn, h => by
    simp only [List.map_cons, List.nodup_cons] at hn
    by_cases hy : y.1 = n
    · have hp : (n, p) ∈ y :: s := getP_mem h
      rcases List.mem_cons.1 hp with h1 | h1
      · subst h1
        refine ⟨[], s, rfl, fun p' => ?_⟩
        unfold updP
        simp only [List.map_cons, if_true, List.nil_append]
        congr 1
        have : ∀ l : PSt, n ∉ l.map (·.1) → (l.map fun y => if y.1 = n then (n, p') else y) = l := by
          intro l hl
          have := List.map_congr_left (f := fun y : Int × Pay => if y.1 = n then (n, p') else y) (g := id) (l := l) (fun y hy' => if_neg (fun e => hl (List.mem_map.2 ⟨y, hy', e⟩)))
          rw [this, List.map_id]
        exact this s hn.1
      · exact absurd (List.mem_map.2 ⟨_, h1, hy.symm⟩) hn.1
    · have h2 : getP n s = some p := by
        unfold getP at h ⊢
        rw [List.find?_cons] at h
        simpa [hy] using h
      obtain ⟨a, b, e1, e2⟩ := getP_split hn.2 h2
      refine ⟨y :: a, b, by rw [e1]; rfl, fun p' => ?_⟩
      have := e2 p'
      unfold updP at this ⊢
      simp only [List.map_cons, if_neg hy, List.cons_append, this]
theorem hk_upd {n : Int} {p p' : Pay} {s : PSt} (hn : (s.map (·.1)).Nodup) (h : getP n s = some p) (k : Int × Int) : k ∈ keysS (updP n p' s) ↔ (k ∈ p'.held.map keyP ∨ (∃ y ∈ s, y.1 ≠ n ∧ k ∈ y.2.held.map keyP)) := by
  unfold updP keysS
  rw [List.mem_flatMap]
  constructor
  · rintro ⟨y, hy, hk⟩
    obtain ⟨z, hz, rfl⟩ := List.mem_map.1 hy
    by_cases e : z.1 = n
    · rw [if_pos e] at hk; exact .inl hk
    · rw [if_neg e] at hk; exact .inr ⟨z, hz, e, hk⟩
  · rintro (hk | ⟨y, hy, e, hk⟩)
    · exact ⟨(n, p'), List.mem_map.2 ⟨(n, p), getP_mem h, by simp⟩, hk⟩
    · exact ⟨y, List.mem_map.2 ⟨y, hy, by rw [if_neg e]⟩, hk⟩
theorem keys_part {n : Int} {p : Pay} {s : PSt} (hn : (s.map (·.1)).Nodup) (hk : (keysS s).Nodup) (h : getP n s = some p) {y : Int × Pay} (hy : y ∈ s) (e : y.1 ≠ n) {k : Int × Int} (h1 : k ∈ y.2.held.map keyP) : k ∉ p.held.map keyP := by
  obtain ⟨a, b, e1, _⟩ := getP_split hn h
  intro h2
  rw [e1, keysS_app, keysS_cons, List.nodup_append] at hk
  obtain ⟨_, h4, h5⟩ := hk
  rw [List.nodup_append] at h4
  rw [e1] at hy
  rcases List.mem_append.1 hy with hy | hy
  · exact h5 k (by unfold keysS; exact List.mem_flatMap.2 ⟨y, hy, h1⟩) k (List.mem_append.2 (.inl h2)) rfl
  · rcases List.mem_cons.1 hy with hy | hy
    · exact e (by rw [hy])
    · exact h4.2.2 k h2 k (by unfold keysS; exact List.mem_flatMap.2 ⟨y, hy, h1⟩) rfl
end Go.Gsp

namespace Go.Gsp
set_option linter.unusedSimpArgs false
set_option linter.unusedVariables false
open Go.Osp Go.Num
theorem mayP_ok {p : Pay} {hk : Int × Int → Bool} {x : Part} {ht : Int} (h : (mayP p hk x ht).2 = 0) :
    p.ovr = false ∧ ht < p.by_ ∧ 1 ≤ x.am ∧ x.am ≤ 1125899906842624 ∧ p.lst ≤ x.ex ∧ hk (keyP x) = false ∧ opensP p.sec x = true ∧ p.held.length < 8 ∧ (addC p.sum x.am).2 = true ∧ (mayP p hk x ht).1 = (addC p.sum x.am).1 := by
  unfold mayP at h ⊢
  split at h
  · simp at h
  split at h
  · simp at h
  split at h
  · simp at h
  split at h
  · simp at h
  split at h
  · simp at h
  split at h
  · simp at h
  split at h
  · simp at h
  split at h
  · simp at h
  rename_i h1 h2 h3 h4 h5 h6 h7 h8
  refine ⟨by simpa using h1, by omega, by omega, by omega, by omega, by simpa using h5, by simpa using h6, by omega, by simpa using h8, ?_⟩
  rw [if_neg h1, if_neg h2, if_neg h3, if_neg h4, if_neg h5, if_neg h6, if_neg h7, if_neg h8]
theorem sumP_snoc (l : List Part) (x : Part) : sumP (l ++ [x]) = sumP l + x.am := by
  unfold sumP
  rw [List.map_append, List.sum_append]
  simp
theorem PayOk.new (sc : Nat) (to by_ le : Int) : PayOk (newP sc to by_ le) := ⟨by simp [newP], fun _ => rfl, by simp [newP], by simp [newP, sumP], by simp [newP]⟩
theorem PayOk.add {p : Pay} (h : PayOk p) {hk : Int × Int → Bool} {x : Part} {ht : Int} (hm : (mayP p hk x ht).2 = 0) : PayOk { p with held := p.held ++ [x], sum := (mayP p hk x ht).1 } := by
  obtain ⟨h1, h2, h3, h4, h5, h6, h7, h8, h9, h10⟩ := mayP_ok hm
  obtain ⟨a1, a2, a3⟩ := addC_val h9
  have hs := h.sum h1
  refine ⟨by simp; omega, fun _ => ?_, ?_, fun _ => ?_, fun ho => ?_⟩
  · show (mayP p hk x ht).1 = sumP (p.held ++ [x])
    rw [sumP_snoc, h10, a1, hs]
  · intro y hy
    rcases List.mem_append.1 hy with hy | hy
    · exact h.low y hy
    · simp at hy; subst hy; exact h3
  · show sumP (p.held ++ [x]) ≤ _
    rw [sumP_snoc, ← hs]; exact a3
  · rw [show ({ p with held := p.held ++ [x], sum := (mayP p hk x ht).1 } : Pay).ovr = p.ovr from rfl, h1] at ho; cases ho
theorem PayOk.clear (p : Pay) (m : Int) (b : Bool) : PayOk { p with held := [], sum := m, ovr := true, paid := b } := ⟨by simp, fun h => (by cases h), (by simp), fun h => (by cases h), fun _ => rfl⟩
theorem PayOk.late {p : Pay} (h : PayOk p) (ht : Int) : PayOk (lateP ht p) := by
  unfold lateP
  split
  · exact ⟨by simp, fun h => (by cases h), (by simp), fun h => (by cases h), fun _ => rfl⟩
  · exact h
theorem srt_of_names {s t : PSt} (h : Srt s) (e : t.map (·.1) = s.map (·.1)) : Srt t := by
  have h1 : (s.map (·.1)).Pairwise (· ≤ ·) := List.pairwise_map.2 h
  rw [← e] at h1
  exact List.pairwise_map.1 h1
theorem nat_of_names {s t : PSt} (h : ∀ y ∈ s, 0 ≤ y.1 ∧ y.1 ≤ 9223372036854775807) (e : t.map (·.1) = s.map (·.1)) : ∀ y ∈ t, 0 ≤ y.1 ∧ y.1 ≤ 9223372036854775807 := by
  intro y hy
  have : y.1 ∈ s.map (·.1) := by rw [← e]; exact List.mem_map.2 ⟨y, hy, rfl⟩
  obtain ⟨z, hz, e2⟩ := List.mem_map.1 this
  rw [← e2]
  exact h z hz
theorem GoodP.nil : GoodP [] := ⟨List.nodup_nil, List.Pairwise.nil, by simp, by simp, List.nodup_nil⟩
theorem GoodP.upd {s : PSt} (h : GoodP s) {n : Int} {p p' : Pay} (hg : getP n s = some p) (ho : PayOk p') (hk : ∀ a b : List (Int × Int), (a ++ (p.held.map keyP ++ b)).Nodup → (∀ k ∈ a ++ (p.held.map keyP ++ b), k ∈ keysS s) → (a ++ (p'.held.map keyP ++ b)).Nodup) : GoodP (updP n p' s) := by
  refine ⟨by rw [updP_names]; exact h.names, srt_of_names h.srt (updP_names n p' s), nat_of_names h.nat (updP_names n p' s), ?_, ?_⟩
  · intro y hy
    obtain ⟨z, hz, rfl⟩ := List.mem_map.1 hy
    split
    · exact ho
    · exact h.pay z hz
  · obtain ⟨a, b, e1, e2⟩ := getP_split h.names hg
    rw [e2 p']
    show (keysS (a ++ (n, p') :: b)).Nodup
    have h1 : (keysS s).Nodup := h.keys
    have h2 : keysS s = keysS a ++ (p.held.map keyP ++ keysS b) := by rw [e1, keysS_app, keysS_cons]
    rw [keysS_app, keysS_cons]
    exact hk (keysS a) (keysS b) (by rw [← h2]; exact h1) (by rw [← h2]; exact fun k hk => hk)
theorem GoodP.add {s : PSt} (h : GoodP s) (nm : Int) (x : Part) (ht : Int) : GoodP (addT s nm x ht).1 := by
  unfold addT
  cases hg : getP nm s with
  | none => exact h
  | some p =>
    have hp := h.pay _ (getP_mem hg)
    simp only
    split
    · exact h
    · rename_i hm
      have hm := Classical.not_not.1 hm
      split
      · refine h.upd hg (hp.add hm) ?_
        intro a b hnd hin
        have hx : keyP x ∉ keysS s := fun hc => by have := (mayP_ok hm).2.2.2.2.2.1; rw [(hkS_iff s _).2 hc] at this; cases this
        have hx2 : keyP x ∉ a ++ (p.held.map keyP ++ b) := fun hc => hx (hin _ hc)
        show (a ++ ((p.held ++ [x]).map keyP ++ b)).Nodup
        rw [List.map_append, List.append_assoc, ← List.append_assoc a]
        have : (a ++ p.held.map keyP ++ ([x].map keyP ++ b)).Perm (keyP x :: (a ++ (p.held.map keyP ++ b))) := by
          rw [← List.append_assoc a]
          exact List.perm_middle
        rw [this.nodup_iff, List.nodup_cons]
        exact ⟨hx2, hnd⟩
      · refine h.upd hg (PayOk.clear p _ _) ?_
        intro a b hnd hin
        show (a ++ ([] ++ b)).Nodup
        rw [List.nil_append]
        exact hnd.sublist ((List.sublist_append_right _ _).append_left a)
theorem GoodP.want {s : PSt} (h : GoodP s) (nm : Int) (sc : Nat) (to by_ le : Int) (hn : nm ≤ 9223372036854775807) : GoodP (wantS s nm sc to by_ le).1 := by
  unfold wantS
  split
  · rename_i hw
    split
    · exact h
    · rename_i hg
      have hg : getP nm s = none := by simpa using hg
      have hp := insP_perm (nm, newP sc to by_ le) s
      refine ⟨?_, insP_srt _ _ h.srt, ?_, ?_, ?_⟩
      · rw [(hp.map (·.1)).nodup_iff]
        simp only [List.map_cons, List.nodup_cons]
        refine ⟨fun hc => ?_, h.names⟩
        obtain ⟨y, hy, e⟩ := List.mem_map.1 hc
        exact getP_none.1 hg y hy e
      · intro y hy
        rcases List.mem_cons.1 (hp.mem_iff.1 hy) with rfl | hy
        · exact ⟨hw.1, hn⟩
        · exact h.nat y hy
      · intro y hy
        rcases List.mem_cons.1 (hp.mem_iff.1 hy) with rfl | hy
        · exact PayOk.new sc to by_ le
        · exact h.pay y hy
      · have := (hp.flatMap_right (fun y => y.2.held.map keyP))
        rw [this.nodup_iff]
        simpa [List.flatMap_cons, newP] using h.keys
  · exact h
theorem late_names (s : PSt) (ht : Int) : (lateS s ht).1.map (·.1) = s.map (·.1) := by simp [lateS, List.map_map, Function.comp_def]
theorem GoodP.late {s : PSt} (h : GoodP s) (ht : Int) : GoodP (lateS s ht).1 := by
  refine ⟨by rw [late_names]; exact h.names, srt_of_names h.srt (late_names s ht), nat_of_names h.nat (late_names s ht), ?_, ?_⟩
  · intro y hy
    obtain ⟨z, hz, rfl⟩ := List.mem_map.1 hy
    exact (h.pay z hz).late ht
  · have h1 : (keysS s).Nodup := h.keys
    refine h1.sublist ?_
    unfold keysS lateS
    simp only
    rw [List.flatMap_map]
    have : ∀ l : PSt, (l.flatMap fun y => ((lateP ht y.2).held.map keyP)).Sublist (l.flatMap fun y => y.2.held.map keyP) := by
      intro l
      induction l with
      | nil => exact List.Sublist.refl _
      | cons y l ih =>
        simp only [List.flatMap_cons]
        refine List.Sublist.append ?_ ih
        unfold lateP
        split
        · exact List.nil_sublist _
        · exact List.Sublist.refl _
    exact this s
end Go.Gsp

namespace Go.Proofs.Ytfgakofjkldcjaa
open Go Go.Sx Go.Hsp Go.Num Go.Osp Go.Gsp
set_option maxRecDepth 20000
set_option linter.unusedSimpArgs false
set_option linter.unusedVariables false
theorem over_some {gp ga gh ca : Nat} {la : List (Nat × Int × Nat)} {gq cq : Nat} {Aq : Option Addr} (nm : Int) (p : Pay) (w : World) (hp : Blk w gp 117 #[.map (some ga), .map (some gh)]) (hA : MapG w ikf ptf ga la ca) (hg : getG nm la = some gq) (hq : Blk w gq 126 #[.int .u64 (((p.sec : Nat) : Int)), .int .i64 (p.tot), .int .i64 (p.by_), .int .i64 (p.lst), .slice Aq p.held.length cq, .int .i64 (p.sum), .bool (p.ovr), .bool (p.paid)]) : Calls Try.prog 25 #[.pointer (some ⟨gp, 0, none⟩), .int .i64 (nm)] w fun r w' => r = .returned (.tuple #[.bool p.ovr, .bool p.paid]) ∧ Le w w' := by
  refine enter Try.func25 rfl rfl ?_
  have L0 := Le.refl w
  refine WC.seq ?_
  refine WC.region ?_
  refine W.any (.assign rfl) rfl rfl rfl ?_
  refine W.any (.assign rfl) rfl rfl rfl ?_
  refine W.nil ?_
  refine E.thenN ?_
  refine WC.seq ?_
  refine WC.region ?_
  refine W.any (.move rfl) rfl rfl rfl ?_
  refine W.any (.nilCheck rfl) rfl rfl rfl ?_
  refine W.any (.field0 fa117_0 rfl) rfl rfl rfl ?_
  refine W.rd (.loadB (v := .map (some ga)) na114 rfl (hp.le L0) rfl) rfl rfl rfl ?_
  refine W.any (.move rfl) rfl rfl rfl ?_
  refine W.rd (.as (.lookup1 (key := nm) Try.underlying114 kint z123 rfl rfl (hA.le L0)) (by rw [hg] <;> rfl)) rfl rfl rfl ?_
  refine W.any (.assign rfl) rfl rfl rfl ?_
  refine W.nil ?_
  refine E.thenN ?_
  refine WC.seq ?_
  refine WC.seq ?_
  refine WC.region ?_
  refine W.any (.move rfl) rfl rfl rfl ?_
  refine W.any (.dec (.isNilP (by kernel_rfl) rfl) rfl) rfl rfl rfl ?_
  refine W.nil ?_
  refine E.thenN ?_
  refine WC.condF rfl ?_
  refine WC.skip ?_
  refine E.thenN ?_
  refine WC.seq ?_
  refine WC.draw [0, 1, 2, 3, 4, 5, 6, 7, 8, 9] mixed (by kernel_rfl) ?_
  intro w4 d4
  have L1 := L0.trans d4
  refine G.any rfl rfl (.move rfl) rfl rfl rfl ?_
  refine G.any rfl rfl (.nilCheck rfl) rfl rfl rfl ?_
  refine G.any rfl rfl (.field0 fa126_6 rfl) rfl rfl rfl ?_
  refine G.rd rfl rfl (.loadB (v := .bool (p.ovr)) na4 rfl (hq.le L1) rfl) rfl rfl rfl ?_
  refine G.any rfl rfl (.move rfl) rfl rfl rfl ?_
  refine G.any rfl rfl (.nilCheck rfl) rfl rfl rfl ?_
  refine G.any rfl rfl (.field0 fa126_7 rfl) rfl rfl rfl ?_
  refine G.rd rfl rfl (.loadB (v := .bool (p.paid)) na4 rfl (hq.le L1) rfl) rfl rfl rfl ?_
  refine G.any rfl rfl (.assign rfl) rfl rfl rfl ?_
  refine G.any rfl rfl (.assign rfl) rfl rfl rfl ?_
  refine G.nil ?_
  refine E.thenN ?_
  refine WC.ret ?_
  refine E.retG2 rfl rfl rfl ?_
  exact ⟨rfl, L1⟩

theorem over_none {gp ga gh ca : Nat} {la : List (Nat × Int × Nat)} (nm : Int) (w : World) (hp : Blk w gp 117 #[.map (some ga), .map (some gh)]) (hA : MapG w ikf ptf ga la ca) (hg : getG nm la = none) : Calls Try.prog 25 #[.pointer (some ⟨gp, 0, none⟩), .int .i64 (nm)] w fun r w' => r = .returned (.tuple #[.bool false, .bool false]) ∧ Le w w' := by
  refine enter Try.func25 rfl rfl ?_
  have L0 := Le.refl w
  refine WC.seq ?_
  refine WC.region ?_
  refine W.any (.assign rfl) rfl rfl rfl ?_
  refine W.any (.assign rfl) rfl rfl rfl ?_
  refine W.nil ?_
  refine E.thenN ?_
  refine WC.seq ?_
  refine WC.region ?_
  refine W.any (.move rfl) rfl rfl rfl ?_
  refine W.any (.nilCheck rfl) rfl rfl rfl ?_
  refine W.any (.field0 fa117_0 rfl) rfl rfl rfl ?_
  refine W.rd (.loadB (v := .map (some ga)) na114 rfl (hp.le L0) rfl) rfl rfl rfl ?_
  refine W.any (.move rfl) rfl rfl rfl ?_
  refine W.rd (.as (.lookup1 (key := nm) Try.underlying114 kint z123 rfl rfl (hA.le L0)) (by rw [hg] <;> rfl)) rfl rfl rfl ?_
  refine W.any (.assign rfl) rfl rfl rfl ?_
  refine W.nil ?_
  refine E.thenN ?_
  refine WC.seq ?_
  refine WC.seq ?_
  refine WC.region ?_
  refine W.any (.move rfl) rfl rfl rfl ?_
  refine W.any (.dec (.isNilP (by kernel_rfl) rfl) rfl) rfl rfl rfl ?_
  refine W.nil ?_
  refine E.thenN ?_
  refine WC.condT rfl ?_
  refine WC.seq ?_
  refine WC.region ?_
  refine W.any (.assign rfl) rfl rfl rfl ?_
  refine W.any (.assign rfl) rfl rfl rfl ?_
  refine W.nil ?_
  refine E.thenN ?_
  refine WC.ret ?_
  refine E.thenR ?_
  refine E.retG2 rfl rfl rfl ?_
  exact ⟨rfl, L0⟩

theorem names_ok {gp ga gh ca : Nat} {la : List (Nat × Int × Nat)} (w : World) (hp : Blk w gp 117 #[.map (some ga), .map (some gh)]) (hA : MapG w ikf ptf ga la ca) (hr : ∀ x ∈ la, inI x.2.1) (hl : la.length ≤ 1000000) : Calls Try.prog 27 #[.pointer (some ⟨gp, 0, none⟩)] w fun r w' => ∃ (A : Option Addr) (c : Nat) (ns : List Int), r = .returned (.slice A la.length c) ∧ ns.Perm (la.map fun x => x.2.1) ∧ ns.Pairwise (· ≤ ·) ∧ OVec w' w.heap.size 3 iv 1 A la.length c ns ∧ Le w w' := by
  refine enter Try.func27 rfl rfl ?_
  have L0 := Le.refl w
  refine WC.seq ?_
  refine WC.region ?_
  refine W.any (.assign rfl) rfl rfl rfl ?_
  refine W.nil ?_
  refine E.thenN ?_
  refine WC.seq ?_
  refine WC.region ?_
  refine W.any (.move rfl) rfl rfl rfl ?_
  refine W.any (.nilCheck rfl) rfl rfl rfl ?_
  refine W.any (.field0 fa117_0 rfl) rfl rfl rfl ?_
  refine W.rd (.loadB (v := .map (some ga)) na114 rfl (hp.le L0) rfl) rfl rfl rfl ?_
  refine W.ef rfl rfl rfl ?_
  refine Ef.call go70 rfl rfl (keys_ok ga w) ?_
  rintro _ w1_4 ⟨rfl, bk1_4, h1_4⟩
  refine ⟨_, rfl, ?_⟩
  have L1 := L0.trans h1_4
  refine W.ef rfl rfl rfl ?_
  refine Ef.call go69 rfl rfl (sorted_ok w1_4 bk1_4 (hA.le L1) hr hl) ?_
  rintro _ w1_5 ⟨An1_5, cn1_5, ns1_5, rfl, hpm1_5, hpw1_5, hon1_5, h1_5⟩
  refine ⟨_, rfl, ?_⟩
  have L2 := L1.trans h1_5
  refine W.any (.assign rfl) rfl rfl rfl ?_
  refine W.nil ?_
  refine E.thenN ?_
  refine WC.ret ?_
  refine E.retG1 rfl rfl ?_
  exact ⟨_, _, _, rfl, hpm1_5, hpw1_5, (hon1_5.mono L1.size), L2⟩

theorem pclone_ok {Aq : Option Addr} {n cq : Nat} {xs : List Part} (w : World) (hO : Vec w partV 6 Aq n xs) (hn : n ≤ 1000000) : Calls Try.prog 71 #[.slice Aq n cq] w fun r w' => ∃ (A : Option Addr) (c : Nat), r = .returned (.slice A n c) ∧ OVec w' w.heap.size 33 partV 6 A n c xs ∧ Le w w' := by
  refine enter Try.func71 rfl rfl ?_
  have L0 := Le.refl w
  refine WC.seq ?_
  refine WC.region ?_
  refine W.any (.assign rfl) rfl rfl rfl ?_
  refine W.nil ?_
  refine E.thenN ?_
  refine WC.seq ?_
  refine WC.seq ?_
  refine WC.region ?_
  refine W.any (.move rfl) rfl rfl rfl ?_
  refine W.any (.isNil Try.underlying46 rfl) rfl rfl rfl ?_
  refine W.nil ?_
  refine E.thenN ?_
  by_cases c0 : Aq.isNone = true
  · refine WC.condY rfl (c0) ?_
    refine WC.seq ?_
    refine WC.region ?_
    refine W.any (.assign rfl) rfl rfl rfl ?_
    refine W.nil ?_
    refine E.thenN ?_
    refine WC.ret ?_
    refine E.thenR ?_
    refine E.retG1 rfl rfl ?_
    have h0 : n = 0 := (by rcases Nat.eq_zero_or_pos n with h | h; exact h; have := hO.isSome partV_row h; rw [Option.isNone_iff_eq_none] at c0; rw [c0] at this; cases this); subst h0; have hx := List.length_eq_zero_iff.1 hO.1; subst hx; exact ⟨none, 0, rfl, OVec.nil _ _ _ _ _ _, L0⟩
  · refine WC.condN rfl ((Bool.eq_false_iff.2 c0)) ?_
    refine WC.skip ?_
    refine E.thenN ?_
    refine WC.seq ?_
    refine WC.region ?_
    refine W.ef rfl rfl rfl ?_
    refine Ef.buildSlice0 Try.underlying46 el33 ?_
    intro g3_0 w3_0 hg3_0 b3_0 h3_0
    have L1 := L0.trans h3_0
    have o3_0 : OVec w3_0 w.heap.size 33 partV 6 (some ⟨g3_0, 0, none⟩) 0 0 [] := OVec.nil _ _ _ _ _ _
    refine W.any (.move rfl) rfl rfl rfl ?_
    refine W.ef rfl rfl rfl ?_
    refine Ef.vcat Try.underlying46 el33 Try.underlying46 partV_row rfl o3_0 rfl (hO.le L1) (by omega) (by unfold maxLen; omega) (by have := h3_0.size; omega) ?_
    intro A3_2 c3_2 w3_2 o3_2 h3_2 at3_2
    have L2 : Le w w3_2 := L1.then_ h3_2 (fun q hq => Nat.le_trans L0.size (o3_0.row hq).1)
    refine W.any (.assign rfl) rfl rfl rfl ?_
    refine W.nil ?_
    refine E.thenN ?_
    refine WC.ret ?_
    refine E.retG1 rfl rfl ?_
    exact ⟨A3_2, c3_2, by rw [Nat.zero_add], (by simpa using (o3_2.mono L0.size)), L2⟩

theorem held_some {gp ga gh ca : Nat} {la : List (Nat × Int × Nat)} {gq cq : Nat} {Aq : Option Addr} (nm : Int) (p : Pay) (w : World) (hp : Blk w gp 117 #[.map (some ga), .map (some gh)]) (hA : MapG w ikf ptf ga la ca) (hg : getG nm la = some gq) (hq : Blk w gq 126 #[.int .u64 (((p.sec : Nat) : Int)), .int .i64 (p.tot), .int .i64 (p.by_), .int .i64 (p.lst), .slice Aq p.held.length cq, .int .i64 (p.sum), .bool (p.ovr), .bool (p.paid)]) (hO : Vec w partV 6 Aq p.held.length p.held) (hhl : p.held.length ≤ 1000000) : Calls Try.prog 29 #[.pointer (some ⟨gp, 0, none⟩), .int .i64 (nm)] w fun r w' => ∃ (A : Option Addr) (c : Nat), r = .returned (.slice A p.held.length c) ∧ OVec w' w.heap.size 33 partV 6 A p.held.length c p.held ∧ Le w w' := by
  refine enter Try.func29 rfl rfl ?_
  have L0 := Le.refl w
  refine WC.seq ?_
  refine WC.region ?_
  refine W.any (.assign rfl) rfl rfl rfl ?_
  refine W.nil ?_
  refine E.thenN ?_
  refine WC.seq ?_
  refine WC.region ?_
  refine W.any (.move rfl) rfl rfl rfl ?_
  refine W.any (.nilCheck rfl) rfl rfl rfl ?_
  refine W.any (.field0 fa117_0 rfl) rfl rfl rfl ?_
  refine W.rd (.loadB (v := .map (some ga)) na114 rfl (hp.le L0) rfl) rfl rfl rfl ?_
  refine W.any (.move rfl) rfl rfl rfl ?_
  refine W.rd (.as (.lookup1 (key := nm) Try.underlying114 kint z123 rfl rfl (hA.le L0)) (by rw [hg] <;> rfl)) rfl rfl rfl ?_
  refine W.any (.assign rfl) rfl rfl rfl ?_
  refine W.nil ?_
  refine E.thenN ?_
  refine WC.seq ?_
  refine WC.seq ?_
  refine WC.region ?_
  refine W.any (.move rfl) rfl rfl rfl ?_
  refine W.any (.dec (.isNilP (by kernel_rfl) rfl) rfl) rfl rfl rfl ?_
  refine W.nil ?_
  refine E.thenN ?_
  refine WC.condF rfl ?_
  refine WC.skip ?_
  refine E.thenN ?_
  refine WC.seq ?_
  refine WC.region ?_
  refine W.any (.move rfl) rfl rfl rfl ?_
  refine W.any (.nilCheck rfl) rfl rfl rfl ?_
  refine W.any (.field0 fa126_4 rfl) rfl rfl rfl ?_
  refine W.rd (.loadB (v := .slice Aq p.held.length cq) na46 rfl (hq.le L0) rfl) rfl rfl rfl ?_
  refine W.ef rfl rfl rfl ?_
  refine Ef.call go71 rfl rfl (pclone_ok w (hO.le L0) hhl) ?_
  rintro _ w4_4 ⟨Ac4_4, cc4_4, rfl, oc4_4, h4_4⟩
  refine ⟨_, rfl, ?_⟩
  have L1 := L0.trans h4_4
  refine W.any (.assign rfl) rfl rfl rfl ?_
  refine W.nil ?_
  refine E.thenN ?_
  refine WC.ret ?_
  refine E.retG1 rfl rfl ?_
  exact ⟨_, _, rfl, (oc4_4.mono L0.size), L1⟩

theorem held_none {gp ga gh ca : Nat} {la : List (Nat × Int × Nat)} (nm : Int) (w : World) (hp : Blk w gp 117 #[.map (some ga), .map (some gh)]) (hA : MapG w ikf ptf ga la ca) (hg : getG nm la = none) : Calls Try.prog 29 #[.pointer (some ⟨gp, 0, none⟩), .int .i64 (nm)] w fun r w' => ∃ (A : Option Addr) (c : Nat), r = .returned (.slice A 0 c) ∧ OVec w' w.heap.size 33 partV 6 A 0 c [] ∧ Le w w' := by
  refine enter Try.func29 rfl rfl ?_
  have L0 := Le.refl w
  refine WC.seq ?_
  refine WC.region ?_
  refine W.any (.assign rfl) rfl rfl rfl ?_
  refine W.nil ?_
  refine E.thenN ?_
  refine WC.seq ?_
  refine WC.region ?_
  refine W.any (.move rfl) rfl rfl rfl ?_
  refine W.any (.nilCheck rfl) rfl rfl rfl ?_
  refine W.any (.field0 fa117_0 rfl) rfl rfl rfl ?_
  refine W.rd (.loadB (v := .map (some ga)) na114 rfl (hp.le L0) rfl) rfl rfl rfl ?_
  refine W.any (.move rfl) rfl rfl rfl ?_
  refine W.rd (.as (.lookup1 (key := nm) Try.underlying114 kint z123 rfl rfl (hA.le L0)) (by rw [hg] <;> rfl)) rfl rfl rfl ?_
  refine W.any (.assign rfl) rfl rfl rfl ?_
  refine W.nil ?_
  refine E.thenN ?_
  refine WC.seq ?_
  refine WC.seq ?_
  refine WC.region ?_
  refine W.any (.move rfl) rfl rfl rfl ?_
  refine W.any (.dec (.isNilP (by kernel_rfl) rfl) rfl) rfl rfl rfl ?_
  refine W.nil ?_
  refine E.thenN ?_
  refine WC.condT rfl ?_
  refine WC.seq ?_
  refine WC.region ?_
  refine W.any (.assign rfl) rfl rfl rfl ?_
  refine W.nil ?_
  refine E.thenN ?_
  refine WC.ret ?_
  refine E.thenR ?_
  refine E.retG1 rfl rfl ?_
  exact ⟨_, _, rfl, OVec.nil _ _ _ _ _ _, L0⟩

theorem want1_ok (n : Int) (w : World) : Calls Try.prog 59 #[.int .i64 (n)] w fun r w' => r = .returned (.bool (decide (0 ≤ n ∧ n ≤ 1048576))) ∧ Le w w' := by
  refine enter Try.func59 rfl rfl ?_
  have L0 := Le.refl w
  refine WC.seq ?_
  refine WC.region ?_
  refine W.any (.assign rfl) rfl rfl rfl ?_
  refine W.nil ?_
  refine E.thenN ?_
  refine WC.seq ?_
  refine WC.region ?_
  refine W.any (.move rfl) rfl rfl rfl ?_
  refine W.any (.geq rfl rfl) rfl rfl rfl ?_
  by_cases q1_2 : 0 ≤ n
  · refine W.any (.dec (.move rfl) (decide_eq_true q1_2)) rfl rfl rfl ?_
    refine W.rdg (Any.rd (.move rfl) _) rfl rfl rfl (rfl) rfl rfl ?_
    refine W.rdg (Any.rd (.leq rfl rfl) _) rfl rfl rfl (rfl) rfl rfl ?_
    refine W.any (.pickT rfl rfl rfl) rfl rfl rfl ?_
    refine W.any (.assign rfl) rfl rfl rfl ?_
    refine W.nil ?_
    refine E.thenN ?_
    refine WC.ret ?_
    refine E.retG1 rfl rfl ?_
    exact ⟨by simp [q1_2]; try omega, L0⟩
  · refine W.any (.dec (.move rfl) (decide_eq_false q1_2)) rfl rfl rfl ?_
    refine W.skip rfl rfl rfl (rfl) rfl rfl ?_
    refine W.skip rfl rfl rfl (rfl) rfl rfl ?_
    refine W.any (.pickF rfl rfl rfl) rfl rfl rfl ?_
    refine W.any (.assign rfl) rfl rfl rfl ?_
    refine W.nil ?_
    refine E.thenN ?_
    refine WC.ret ?_
    refine E.retG1 rfl rfl ?_
    exact ⟨by simp [q1_2]; try omega, L0⟩

theorem want_some {gp ga gh ca : Nat} {la : List (Nat × Int × Nat)} {gq : Nat} (nm : Int) (sc : Nat) (to by_ le : Int) (w : World) (hp : Blk w gp 117 #[.map (some ga), .map (some gh)]) (hA : MapG w ikf ptf ga la ca) (hg : getG nm la = some gq) : Calls Try.prog 17 #[.pointer (some ⟨gp, 0, none⟩), .int .i64 (nm), .int .u64 (((sc : Nat) : Int)), .int .i64 (to), .int .i64 (by_), .int .i64 (le)] w fun r w' => r = .returned (.int .i64 (if wantOk nm sc to by_ le then 4 else 1)) ∧ Le w w' := by
  refine enter Try.func17 rfl rfl ?_
  have L0 := Le.refl w
  refine WC.seq ?_
  refine WC.region ?_
  refine W.any (.assign rfl) rfl rfl rfl ?_
  refine W.nil ?_
  refine E.thenN ?_
  refine WC.seq ?_
  refine WC.region ?_
  refine W.any (.assign rfl) rfl rfl rfl ?_
  refine W.nil ?_
  refine E.thenN ?_
  refine WC.seq ?_
  refine WC.seq ?_
  refine WC.region ?_
  refine W.any (.move rfl) rfl rfl rfl ?_
  refine W.any (.lss rfl rfl) rfl rfl rfl ?_
  by_cases q2_2 : nm < 0
  · refine W.any (.dec (.move rfl) (decide_eq_true q2_2)) rfl rfl rfl ?_
    refine W.skip rfl rfl rfl (rfl) rfl rfl ?_
    refine W.skip rfl rfl rfl (rfl) rfl rfl ?_
    refine W.any (.pickT rfl rfl rfl) rfl rfl rfl ?_
    refine W.any (.move rfl) rfl rfl rfl ?_
    refine W.skip rfl rfl rfl (rfl) rfl rfl ?_
    refine W.skip rfl rfl rfl (rfl) rfl rfl ?_
    refine W.skip rfl rfl rfl (rfl) rfl rfl ?_
    refine W.any (.pickT rfl rfl rfl) rfl rfl rfl ?_
    refine W.any (.move rfl) rfl rfl rfl ?_
    refine W.skip rfl rfl rfl (rfl) rfl rfl ?_
    refine W.skip rfl rfl rfl (rfl) rfl rfl ?_
    refine W.any (.pickT rfl rfl rfl) rfl rfl rfl ?_
    refine W.any (.move rfl) rfl rfl rfl ?_
    refine W.skip rfl rfl rfl (rfl) rfl rfl ?_
    refine W.skip rfl rfl rfl (rfl) rfl rfl ?_
    refine W.any (.pickT rfl rfl rfl) rfl rfl rfl ?_
    refine W.any (.move rfl) rfl rfl rfl ?_
    refine W.skip rfl rfl rfl (rfl) rfl rfl ?_
    refine W.skip rfl rfl rfl (rfl) rfl rfl ?_
    refine W.skip rfl rfl rfl (rfl) rfl rfl ?_
    refine W.skip rfl rfl rfl (rfl) rfl rfl ?_
    refine W.any (.pickT rfl rfl rfl) rfl rfl rfl ?_
    refine W.any (.move rfl) rfl rfl rfl ?_
    refine W.skip rfl rfl rfl (rfl) rfl rfl ?_
    refine W.skip rfl rfl rfl (rfl) rfl rfl ?_
    refine W.skip rfl rfl rfl (rfl) rfl rfl ?_
    refine W.skip rfl rfl rfl (rfl) rfl rfl ?_
    refine W.any (.pickT rfl rfl rfl) rfl rfl rfl ?_
    refine W.nil ?_
    refine E.thenN ?_
    refine WC.condT rfl ?_
    refine WC.seq ?_
    refine WC.region ?_
    refine W.any (.assign rfl) rfl rfl rfl ?_
    refine W.nil ?_
    refine E.thenN ?_
    refine WC.ret ?_
    refine E.thenR ?_
    refine E.retG1 rfl rfl ?_
    exact ⟨by rw [if_neg (fun h => by unfold wantOk at h; omega)], L0⟩
  · refine W.any (.dec (.move rfl) (decide_eq_false q2_2)) rfl rfl rfl ?_
    refine W.rdg (Any.rd (.move rfl) _) rfl rfl rfl (rfl) rfl rfl ?_
    refine W.rdg (Any.rd (.eql rfl rfl) _) rfl rfl rfl (rfl) rfl rfl ?_
    refine W.any (.pickF rfl rfl rfl) rfl rfl rfl ?_
    by_cases q2_6 : ((sc : Nat) : Int) = 0
    · refine W.any (.dec (.move rfl) (decide_eq_true q2_6)) rfl rfl rfl ?_
      refine W.skip rfl rfl rfl (rfl) rfl rfl ?_
      refine W.skip rfl rfl rfl (rfl) rfl rfl ?_
      refine W.skip rfl rfl rfl (rfl) rfl rfl ?_
      refine W.any (.pickT rfl rfl rfl) rfl rfl rfl ?_
      refine W.any (.move rfl) rfl rfl rfl ?_
      refine W.skip rfl rfl rfl (rfl) rfl rfl ?_
      refine W.skip rfl rfl rfl (rfl) rfl rfl ?_
      refine W.any (.pickT rfl rfl rfl) rfl rfl rfl ?_
      refine W.any (.move rfl) rfl rfl rfl ?_
      refine W.skip rfl rfl rfl (rfl) rfl rfl ?_
      refine W.skip rfl rfl rfl (rfl) rfl rfl ?_
      refine W.any (.pickT rfl rfl rfl) rfl rfl rfl ?_
      refine W.any (.move rfl) rfl rfl rfl ?_
      refine W.skip rfl rfl rfl (rfl) rfl rfl ?_
      refine W.skip rfl rfl rfl (rfl) rfl rfl ?_
      refine W.skip rfl rfl rfl (rfl) rfl rfl ?_
      refine W.skip rfl rfl rfl (rfl) rfl rfl ?_
      refine W.any (.pickT rfl rfl rfl) rfl rfl rfl ?_
      refine W.any (.move rfl) rfl rfl rfl ?_
      refine W.skip rfl rfl rfl (rfl) rfl rfl ?_
      refine W.skip rfl rfl rfl (rfl) rfl rfl ?_
      refine W.skip rfl rfl rfl (rfl) rfl rfl ?_
      refine W.skip rfl rfl rfl (rfl) rfl rfl ?_
      refine W.any (.pickT rfl rfl rfl) rfl rfl rfl ?_
      refine W.nil ?_
      refine E.thenN ?_
      refine WC.condT rfl ?_
      refine WC.seq ?_
      refine WC.region ?_
      refine W.any (.assign rfl) rfl rfl rfl ?_
      refine W.nil ?_
      refine E.thenN ?_
      refine WC.ret ?_
      refine E.thenR ?_
      refine E.retG1 rfl rfl ?_
      exact ⟨by rw [if_neg (fun h => by unfold wantOk at h; omega)], L0⟩
    · refine W.any (.dec (.move rfl) (decide_eq_false q2_6)) rfl rfl rfl ?_
      refine W.rdg (Any.rd (.move rfl) _) rfl rfl rfl (rfl) rfl rfl ?_
      refine W.efg rfl rfl rfl (rfl) rfl rfl ?_
      refine Ef.call go60 rfl rfl (fright_ok sc w) ?_
      rintro _ w2_8 ⟨rfl, h2_8⟩
      refine ⟨_, rfl, ?_⟩
      have L1 := L0.trans h2_8
      refine W.rdg (Any.rd (.not rfl) _) rfl rfl rfl (rfl) rfl rfl ?_
      refine W.any (.pickF rfl rfl rfl) rfl rfl rfl ?_
      by_cases q2_11 : sc < q
      · refine W.any (.dec (.move rfl) (congrArg not (decide_eq_true q2_11))) rfl rfl rfl ?_
        refine W.rdg (Any.rd (.move rfl) _) rfl rfl rfl (rfl) rfl rfl ?_
        refine W.rdg (Any.rd (.lss rfl rfl) _) rfl rfl rfl (rfl) rfl rfl ?_
        refine W.any (.pickF rfl rfl rfl) rfl rfl rfl ?_
        by_cases q2_15 : to < 1
        · refine W.any (.dec (.move rfl) (decide_eq_true q2_15)) rfl rfl rfl ?_
          refine W.skip rfl rfl rfl (rfl) rfl rfl ?_
          refine W.skip rfl rfl rfl (rfl) rfl rfl ?_
          refine W.any (.pickT rfl rfl rfl) rfl rfl rfl ?_
          refine W.any (.move rfl) rfl rfl rfl ?_
          refine W.skip rfl rfl rfl (rfl) rfl rfl ?_
          refine W.skip rfl rfl rfl (rfl) rfl rfl ?_
          refine W.skip rfl rfl rfl (rfl) rfl rfl ?_
          refine W.skip rfl rfl rfl (rfl) rfl rfl ?_
          refine W.any (.pickT rfl rfl rfl) rfl rfl rfl ?_
          refine W.any (.move rfl) rfl rfl rfl ?_
          refine W.skip rfl rfl rfl (rfl) rfl rfl ?_
          refine W.skip rfl rfl rfl (rfl) rfl rfl ?_
          refine W.skip rfl rfl rfl (rfl) rfl rfl ?_
          refine W.skip rfl rfl rfl (rfl) rfl rfl ?_
          refine W.any (.pickT rfl rfl rfl) rfl rfl rfl ?_
          refine W.nil ?_
          refine E.thenN ?_
          refine WC.condT rfl ?_
          refine WC.seq ?_
          refine WC.region ?_
          refine W.any (.assign rfl) rfl rfl rfl ?_
          refine W.nil ?_
          refine E.thenN ?_
          refine WC.ret ?_
          refine E.thenR ?_
          refine E.retG1 rfl rfl ?_
          exact ⟨by rw [if_neg (fun h => by unfold wantOk at h; omega)], L1⟩
        · refine W.any (.dec (.move rfl) (decide_eq_false q2_15)) rfl rfl rfl ?_
          refine W.rdg (Any.rd (.move rfl) _) rfl rfl rfl (rfl) rfl rfl ?_
          refine W.rdg (Any.rd (.gtr rfl rfl) _) rfl rfl rfl (rfl) rfl rfl ?_
          refine W.any (.pickF rfl rfl rfl) rfl rfl rfl ?_
          by_cases q2_19 : 1125899906842624 < to
          · refine W.any (.dec (.move rfl) (decide_eq_true q2_19)) rfl rfl rfl ?_
            refine W.skip rfl rfl rfl (rfl) rfl rfl ?_
            refine W.skip rfl rfl rfl (rfl) rfl rfl ?_
            refine W.skip rfl rfl rfl (rfl) rfl rfl ?_
            refine W.skip rfl rfl rfl (rfl) rfl rfl ?_
            refine W.any (.pickT rfl rfl rfl) rfl rfl rfl ?_
            refine W.any (.move rfl) rfl rfl rfl ?_
            refine W.skip rfl rfl rfl (rfl) rfl rfl ?_
            refine W.skip rfl rfl rfl (rfl) rfl rfl ?_
            refine W.skip rfl rfl rfl (rfl) rfl rfl ?_
            refine W.skip rfl rfl rfl (rfl) rfl rfl ?_
            refine W.any (.pickT rfl rfl rfl) rfl rfl rfl ?_
            refine W.nil ?_
            refine E.thenN ?_
            refine WC.condT rfl ?_
            refine WC.seq ?_
            refine WC.region ?_
            refine W.any (.assign rfl) rfl rfl rfl ?_
            refine W.nil ?_
            refine E.thenN ?_
            refine WC.ret ?_
            refine E.thenR ?_
            refine E.retG1 rfl rfl ?_
            exact ⟨by rw [if_neg (fun h => by unfold wantOk at h; omega)], L1⟩
          · refine W.any (.dec (.move rfl) (decide_eq_false q2_19)) rfl rfl rfl ?_
            refine W.rdg (Any.rd (.move rfl) _) rfl rfl rfl (rfl) rfl rfl ?_
            refine W.rdg (Any.rd (.move rfl) _) rfl rfl rfl (rfl) rfl rfl ?_
            refine W.efg rfl rfl rfl (rfl) rfl rfl ?_
            refine Ef.call go59 rfl rfl (want1_ok by_ w2_8) ?_
            rintro _ w2_22 ⟨rfl, h2_22⟩
            refine ⟨_, rfl, ?_⟩
            have L2 := L1.trans h2_22
            refine W.rdg (Any.rd (.not rfl) _) rfl rfl rfl (rfl) rfl rfl ?_
            refine W.any (.pickF rfl rfl rfl) rfl rfl rfl ?_
            by_cases q2_25 : 0 ≤ by_ ∧ by_ ≤ 1048576
            · refine W.any (.dec (.move rfl) (congrArg not (decide_eq_true q2_25))) rfl rfl rfl ?_
              refine W.rdg (Any.rd (.move rfl) _) rfl rfl rfl (rfl) rfl rfl ?_
              refine W.rdg (Any.rd (.move rfl) _) rfl rfl rfl (rfl) rfl rfl ?_
              refine W.efg rfl rfl rfl (rfl) rfl rfl ?_
              refine Ef.call go59 rfl rfl (want1_ok le w2_22) ?_
              rintro _ w2_28 ⟨rfl, h2_28⟩
              refine ⟨_, rfl, ?_⟩
              have L3 := L2.trans h2_28
              refine W.rdg (Any.rd (.not rfl) _) rfl rfl rfl (rfl) rfl rfl ?_
              refine W.any (.pickF rfl rfl rfl) rfl rfl rfl ?_
              refine W.nil ?_
              refine E.thenN ?_
              by_cases c0 : 0 ≤ le ∧ le ≤ 1048576
              · refine WC.condN rfl (congrArg not (decide_eq_true c0)) ?_
                refine WC.skip ?_
                refine E.thenN ?_
                refine WC.seq ?_
                refine WC.seq ?_
                refine WC.region ?_
                refine W.any (.move rfl) rfl rfl rfl ?_
                refine W.any (.nilCheck rfl) rfl rfl rfl ?_
                refine W.any (.field0 fa117_0 rfl) rfl rfl rfl ?_
                refine W.rd (.loadB (v := .map (some ga)) na114 rfl (hp.le L3) rfl) rfl rfl rfl ?_
                refine W.any (.move rfl) rfl rfl rfl ?_
                refine W.rd (.as (.lookup2 (key := nm) Try.underlying114 kint z123 rfl rfl (hA.le L3)) (by rw [hg] <;> rfl)) rfl rfl rfl ?_
                refine W.any (.move rfl) rfl rfl rfl ?_
                refine W.any (.extract (v := .pointer (some ⟨gq, 0, none⟩)) rfl rfl) rfl rfl rfl ?_
                refine W.any (.extract (v := .bool true) rfl rfl) rfl rfl rfl ?_
                refine W.any (.assign rfl) rfl rfl rfl ?_
                refine W.any (.assign rfl) rfl rfl rfl ?_
                refine W.nil ?_
                refine E.thenN ?_
                refine WC.seq ?_
                refine WC.region ?_
                refine W.any (.move rfl) rfl rfl rfl ?_
                refine W.nil ?_
                refine E.thenN ?_
                refine WC.condT rfl ?_
                refine WC.seq ?_
                refine WC.region ?_
                refine W.any (.assign rfl) rfl rfl rfl ?_
                refine W.nil ?_
                refine E.thenN ?_
                refine WC.ret ?_
                refine E.thenR ?_
                refine E.retG1 rfl rfl ?_
                exact ⟨by rw [if_pos (by unfold wantOk; omega)], L3⟩
              · refine WC.condY rfl (congrArg not (decide_eq_false c0)) ?_
                refine WC.seq ?_
                refine WC.region ?_
                refine W.any (.assign rfl) rfl rfl rfl ?_
                refine W.nil ?_
                refine E.thenN ?_
                refine WC.ret ?_
                refine E.thenR ?_
                refine E.retG1 rfl rfl ?_
                exact ⟨by rw [if_neg (fun h => by unfold wantOk at h; omega)], L3⟩
            · refine W.any (.dec (.move rfl) (congrArg not (decide_eq_false q2_25))) rfl rfl rfl ?_
              refine W.skip rfl rfl rfl (rfl) rfl rfl ?_
              refine W.skip rfl rfl rfl (rfl) rfl rfl ?_
              refine W.skip rfl rfl rfl (rfl) rfl rfl ?_
              refine W.skip rfl rfl rfl (rfl) rfl rfl ?_
              refine W.any (.pickT rfl rfl rfl) rfl rfl rfl ?_
              refine W.nil ?_
              refine E.thenN ?_
              refine WC.condT rfl ?_
              refine WC.seq ?_
              refine WC.region ?_
              refine W.any (.assign rfl) rfl rfl rfl ?_
              refine W.nil ?_
              refine E.thenN ?_
              refine WC.ret ?_
              refine E.thenR ?_
              refine E.retG1 rfl rfl ?_
              exact ⟨by rw [if_neg (fun h => by unfold wantOk at h; omega)], L2⟩
      · refine W.any (.dec (.move rfl) (congrArg not (decide_eq_false q2_11))) rfl rfl rfl ?_
        refine W.skip rfl rfl rfl (rfl) rfl rfl ?_
        refine W.skip rfl rfl rfl (rfl) rfl rfl ?_
        refine W.any (.pickT rfl rfl rfl) rfl rfl rfl ?_
        refine W.any (.move rfl) rfl rfl rfl ?_
        refine W.skip rfl rfl rfl (rfl) rfl rfl ?_
        refine W.skip rfl rfl rfl (rfl) rfl rfl ?_
        refine W.any (.pickT rfl rfl rfl) rfl rfl rfl ?_
        refine W.any (.move rfl) rfl rfl rfl ?_
        refine W.skip rfl rfl rfl (rfl) rfl rfl ?_
        refine W.skip rfl rfl rfl (rfl) rfl rfl ?_
        refine W.skip rfl rfl rfl (rfl) rfl rfl ?_
        refine W.skip rfl rfl rfl (rfl) rfl rfl ?_
        refine W.any (.pickT rfl rfl rfl) rfl rfl rfl ?_
        refine W.any (.move rfl) rfl rfl rfl ?_
        refine W.skip rfl rfl rfl (rfl) rfl rfl ?_
        refine W.skip rfl rfl rfl (rfl) rfl rfl ?_
        refine W.skip rfl rfl rfl (rfl) rfl rfl ?_
        refine W.skip rfl rfl rfl (rfl) rfl rfl ?_
        refine W.any (.pickT rfl rfl rfl) rfl rfl rfl ?_
        refine W.nil ?_
        refine E.thenN ?_
        refine WC.condT rfl ?_
        refine WC.seq ?_
        refine WC.region ?_
        refine W.any (.assign rfl) rfl rfl rfl ?_
        refine W.nil ?_
        refine E.thenN ?_
        refine WC.ret ?_
        refine E.thenR ?_
        refine E.retG1 rfl rfl ?_
        exact ⟨by rw [if_neg (fun h => by unfold wantOk at h; omega)], L1⟩

theorem want_none {gp ga gh ca : Nat} {la : List (Nat × Int × Nat)} (nm : Int) (sc : Nat) (to by_ le : Int) (w : World) (hp : Blk w gp 117 #[.map (some ga), .map (some gh)]) (hA : MapG w ikf ptf ga la ca) (hg : getG nm la = none) (n1 : gp ≠ ga) : Calls Try.prog 17 #[.pointer (some ⟨gp, 0, none⟩), .int .i64 (nm), .int .u64 (((sc : Nat) : Int)), .int .i64 (to), .int .i64 (by_), .int .i64 (le)] w fun r w' => ChP w w' (fun k => k = ga) ∧ ((¬ wantOk nm sc to by_ le ∧ r = .returned (.int .i64 1) ∧ MapG w' ikf ptf ga la ca) ∨ (wantOk nm sc to by_ le ∧ r = .returned (.int .i64 0) ∧ ∃ g, w.heap.size ≤ g ∧ Blk w' g 126 #[.int .u64 ((sc : Nat) : Int), .int .i64 to, .int .i64 by_, .int .i64 le, .slice none 0 0, .int .i64 0, .bool false, .bool false] ∧ MapG w' ikf ptf ga (la ++ [(ca, nm, g)]) (ca + 1))) := by
  refine enter Try.func17 rfl rfl ?_
  have L0 := ChP.refl w (fun k => k = ga)
  refine WC.seq ?_
  refine WC.region ?_
  refine W.any (.assign rfl) rfl rfl rfl ?_
  refine W.nil ?_
  refine E.thenN ?_
  refine WC.seq ?_
  refine WC.region ?_
  refine W.any (.assign rfl) rfl rfl rfl ?_
  refine W.nil ?_
  refine E.thenN ?_
  refine WC.seq ?_
  refine WC.seq ?_
  refine WC.region ?_
  refine W.any (.move rfl) rfl rfl rfl ?_
  refine W.any (.lss rfl rfl) rfl rfl rfl ?_
  by_cases q2_2 : nm < 0
  · refine W.any (.dec (.move rfl) (decide_eq_true q2_2)) rfl rfl rfl ?_
    refine W.skip rfl rfl rfl (rfl) rfl rfl ?_
    refine W.skip rfl rfl rfl (rfl) rfl rfl ?_
    refine W.any (.pickT rfl rfl rfl) rfl rfl rfl ?_
    refine W.any (.move rfl) rfl rfl rfl ?_
    refine W.skip rfl rfl rfl (rfl) rfl rfl ?_
    refine W.skip rfl rfl rfl (rfl) rfl rfl ?_
    refine W.skip rfl rfl rfl (rfl) rfl rfl ?_
    refine W.any (.pickT rfl rfl rfl) rfl rfl rfl ?_
    refine W.any (.move rfl) rfl rfl rfl ?_
    refine W.skip rfl rfl rfl (rfl) rfl rfl ?_
    refine W.skip rfl rfl rfl (rfl) rfl rfl ?_
    refine W.any (.pickT rfl rfl rfl) rfl rfl rfl ?_
    refine W.any (.move rfl) rfl rfl rfl ?_
    refine W.skip rfl rfl rfl (rfl) rfl rfl ?_
    refine W.skip rfl rfl rfl (rfl) rfl rfl ?_
    refine W.any (.pickT rfl rfl rfl) rfl rfl rfl ?_
    refine W.any (.move rfl) rfl rfl rfl ?_
    refine W.skip rfl rfl rfl (rfl) rfl rfl ?_
    refine W.skip rfl rfl rfl (rfl) rfl rfl ?_
    refine W.skip rfl rfl rfl (rfl) rfl rfl ?_
    refine W.skip rfl rfl rfl (rfl) rfl rfl ?_
    refine W.any (.pickT rfl rfl rfl) rfl rfl rfl ?_
    refine W.any (.move rfl) rfl rfl rfl ?_
    refine W.skip rfl rfl rfl (rfl) rfl rfl ?_
    refine W.skip rfl rfl rfl (rfl) rfl rfl ?_
    refine W.skip rfl rfl rfl (rfl) rfl rfl ?_
    refine W.skip rfl rfl rfl (rfl) rfl rfl ?_
    refine W.any (.pickT rfl rfl rfl) rfl rfl rfl ?_
    refine W.nil ?_
    refine E.thenN ?_
    refine WC.condT rfl ?_
    refine WC.seq ?_
    refine WC.region ?_
    refine W.any (.assign rfl) rfl rfl rfl ?_
    refine W.nil ?_
    refine E.thenN ?_
    refine WC.ret ?_
    refine E.thenR ?_
    refine E.retG1 rfl rfl ?_
    exact ⟨L0, .inl ⟨(fun h => by unfold wantOk at h; omega), rfl, hA⟩⟩
  · refine W.any (.dec (.move rfl) (decide_eq_false q2_2)) rfl rfl rfl ?_
    refine W.rdg (Any.rd (.move rfl) _) rfl rfl rfl (rfl) rfl rfl ?_
    refine W.rdg (Any.rd (.eql rfl rfl) _) rfl rfl rfl (rfl) rfl rfl ?_
    refine W.any (.pickF rfl rfl rfl) rfl rfl rfl ?_
    by_cases q2_6 : ((sc : Nat) : Int) = 0
    · refine W.any (.dec (.move rfl) (decide_eq_true q2_6)) rfl rfl rfl ?_
      refine W.skip rfl rfl rfl (rfl) rfl rfl ?_
      refine W.skip rfl rfl rfl (rfl) rfl rfl ?_
      refine W.skip rfl rfl rfl (rfl) rfl rfl ?_
      refine W.any (.pickT rfl rfl rfl) rfl rfl rfl ?_
      refine W.any (.move rfl) rfl rfl rfl ?_
      refine W.skip rfl rfl rfl (rfl) rfl rfl ?_
      refine W.skip rfl rfl rfl (rfl) rfl rfl ?_
      refine W.any (.pickT rfl rfl rfl) rfl rfl rfl ?_
      refine W.any (.move rfl) rfl rfl rfl ?_
      refine W.skip rfl rfl rfl (rfl) rfl rfl ?_
      refine W.skip rfl rfl rfl (rfl) rfl rfl ?_
      refine W.any (.pickT rfl rfl rfl) rfl rfl rfl ?_
      refine W.any (.move rfl) rfl rfl rfl ?_
      refine W.skip rfl rfl rfl (rfl) rfl rfl ?_
      refine W.skip rfl rfl rfl (rfl) rfl rfl ?_
      refine W.skip rfl rfl rfl (rfl) rfl rfl ?_
      refine W.skip rfl rfl rfl (rfl) rfl rfl ?_
      refine W.any (.pickT rfl rfl rfl) rfl rfl rfl ?_
      refine W.any (.move rfl) rfl rfl rfl ?_
      refine W.skip rfl rfl rfl (rfl) rfl rfl ?_
      refine W.skip rfl rfl rfl (rfl) rfl rfl ?_
      refine W.skip rfl rfl rfl (rfl) rfl rfl ?_
      refine W.skip rfl rfl rfl (rfl) rfl rfl ?_
      refine W.any (.pickT rfl rfl rfl) rfl rfl rfl ?_
      refine W.nil ?_
      refine E.thenN ?_
      refine WC.condT rfl ?_
      refine WC.seq ?_
      refine WC.region ?_
      refine W.any (.assign rfl) rfl rfl rfl ?_
      refine W.nil ?_
      refine E.thenN ?_
      refine WC.ret ?_
      refine E.thenR ?_
      refine E.retG1 rfl rfl ?_
      exact ⟨L0, .inl ⟨(fun h => by unfold wantOk at h; omega), rfl, hA⟩⟩
    · refine W.any (.dec (.move rfl) (decide_eq_false q2_6)) rfl rfl rfl ?_
      refine W.rdg (Any.rd (.move rfl) _) rfl rfl rfl (rfl) rfl rfl ?_
      refine W.efg rfl rfl rfl (rfl) rfl rfl ?_
      refine Ef.call go60 rfl rfl (fright_ok sc w) ?_
      rintro _ w2_8 ⟨rfl, h2_8⟩
      refine ⟨_, rfl, ?_⟩
      have L1 := L0.le h2_8
      refine W.rdg (Any.rd (.not rfl) _) rfl rfl rfl (rfl) rfl rfl ?_
      refine W.any (.pickF rfl rfl rfl) rfl rfl rfl ?_
      by_cases q2_11 : sc < q
      · refine W.any (.dec (.move rfl) (congrArg not (decide_eq_true q2_11))) rfl rfl rfl ?_
        refine W.rdg (Any.rd (.move rfl) _) rfl rfl rfl (rfl) rfl rfl ?_
        refine W.rdg (Any.rd (.lss rfl rfl) _) rfl rfl rfl (rfl) rfl rfl ?_
        refine W.any (.pickF rfl rfl rfl) rfl rfl rfl ?_
        by_cases q2_15 : to < 1
        · refine W.any (.dec (.move rfl) (decide_eq_true q2_15)) rfl rfl rfl ?_
          refine W.skip rfl rfl rfl (rfl) rfl rfl ?_
          refine W.skip rfl rfl rfl (rfl) rfl rfl ?_
          refine W.any (.pickT rfl rfl rfl) rfl rfl rfl ?_
          refine W.any (.move rfl) rfl rfl rfl ?_
          refine W.skip rfl rfl rfl (rfl) rfl rfl ?_
          refine W.skip rfl rfl rfl (rfl) rfl rfl ?_
          refine W.skip rfl rfl rfl (rfl) rfl rfl ?_
          refine W.skip rfl rfl rfl (rfl) rfl rfl ?_
          refine W.any (.pickT rfl rfl rfl) rfl rfl rfl ?_
          refine W.any (.move rfl) rfl rfl rfl ?_
          refine W.skip rfl rfl rfl (rfl) rfl rfl ?_
          refine W.skip rfl rfl rfl (rfl) rfl rfl ?_
          refine W.skip rfl rfl rfl (rfl) rfl rfl ?_
          refine W.skip rfl rfl rfl (rfl) rfl rfl ?_
          refine W.any (.pickT rfl rfl rfl) rfl rfl rfl ?_
          refine W.nil ?_
          refine E.thenN ?_
          refine WC.condT rfl ?_
          refine WC.seq ?_
          refine WC.region ?_
          refine W.any (.assign rfl) rfl rfl rfl ?_
          refine W.nil ?_
          refine E.thenN ?_
          refine WC.ret ?_
          refine E.thenR ?_
          have f2 := (hA.le h2_8)
          refine E.retG1 rfl rfl ?_
          exact ⟨L1, .inl ⟨(fun h => by unfold wantOk at h; omega), rfl, f2⟩⟩
        · refine W.any (.dec (.move rfl) (decide_eq_false q2_15)) rfl rfl rfl ?_
          refine W.rdg (Any.rd (.move rfl) _) rfl rfl rfl (rfl) rfl rfl ?_
          refine W.rdg (Any.rd (.gtr rfl rfl) _) rfl rfl rfl (rfl) rfl rfl ?_
          refine W.any (.pickF rfl rfl rfl) rfl rfl rfl ?_
          by_cases q2_19 : 1125899906842624 < to
          · refine W.any (.dec (.move rfl) (decide_eq_true q2_19)) rfl rfl rfl ?_
            refine W.skip rfl rfl rfl (rfl) rfl rfl ?_
            refine W.skip rfl rfl rfl (rfl) rfl rfl ?_
            refine W.skip rfl rfl rfl (rfl) rfl rfl ?_
            refine W.skip rfl rfl rfl (rfl) rfl rfl ?_
            refine W.any (.pickT rfl rfl rfl) rfl rfl rfl ?_
            refine W.any (.move rfl) rfl rfl rfl ?_
            refine W.skip rfl rfl rfl (rfl) rfl rfl ?_
            refine W.skip rfl rfl rfl (rfl) rfl rfl ?_
            refine W.skip rfl rfl rfl (rfl) rfl rfl ?_
            refine W.skip rfl rfl rfl (rfl) rfl rfl ?_
            refine W.any (.pickT rfl rfl rfl) rfl rfl rfl ?_
            refine W.nil ?_
            refine E.thenN ?_
            refine WC.condT rfl ?_
            refine WC.seq ?_
            refine WC.region ?_
            refine W.any (.assign rfl) rfl rfl rfl ?_
            refine W.nil ?_
            refine E.thenN ?_
            refine WC.ret ?_
            refine E.thenR ?_
            have f3 := (hA.le h2_8)
            refine E.retG1 rfl rfl ?_
            exact ⟨L1, .inl ⟨(fun h => by unfold wantOk at h; omega), rfl, f3⟩⟩
          · refine W.any (.dec (.move rfl) (decide_eq_false q2_19)) rfl rfl rfl ?_
            refine W.rdg (Any.rd (.move rfl) _) rfl rfl rfl (rfl) rfl rfl ?_
            refine W.rdg (Any.rd (.move rfl) _) rfl rfl rfl (rfl) rfl rfl ?_
            refine W.efg rfl rfl rfl (rfl) rfl rfl ?_
            refine Ef.call go59 rfl rfl (want1_ok by_ w2_8) ?_
            rintro _ w2_22 ⟨rfl, h2_22⟩
            refine ⟨_, rfl, ?_⟩
            have L4 := L1.le h2_22
            refine W.rdg (Any.rd (.not rfl) _) rfl rfl rfl (rfl) rfl rfl ?_
            refine W.any (.pickF rfl rfl rfl) rfl rfl rfl ?_
            by_cases q2_25 : 0 ≤ by_ ∧ by_ ≤ 1048576
            · refine W.any (.dec (.move rfl) (congrArg not (decide_eq_true q2_25))) rfl rfl rfl ?_
              refine W.rdg (Any.rd (.move rfl) _) rfl rfl rfl (rfl) rfl rfl ?_
              refine W.rdg (Any.rd (.move rfl) _) rfl rfl rfl (rfl) rfl rfl ?_
              refine W.efg rfl rfl rfl (rfl) rfl rfl ?_
              refine Ef.call go59 rfl rfl (want1_ok le w2_22) ?_
              rintro _ w2_28 ⟨rfl, h2_28⟩
              refine ⟨_, rfl, ?_⟩
              have L5 := L4.le h2_28
              refine W.rdg (Any.rd (.not rfl) _) rfl rfl rfl (rfl) rfl rfl ?_
              refine W.any (.pickF rfl rfl rfl) rfl rfl rfl ?_
              refine W.nil ?_
              refine E.thenN ?_
              by_cases c0 : 0 ≤ le ∧ le ≤ 1048576
              · refine WC.condN rfl (congrArg not (decide_eq_true c0)) ?_
                refine WC.skip ?_
                refine E.thenN ?_
                refine WC.seq ?_
                refine WC.seq ?_
                refine WC.region ?_
                refine W.any (.move rfl) rfl rfl rfl ?_
                refine W.any (.nilCheck rfl) rfl rfl rfl ?_
                refine W.any (.field0 fa117_0 rfl) rfl rfl rfl ?_
                have f6 := (hp.le (h2_8.trans (h2_22.trans h2_28)))
                refine W.rd (.loadB (v := .map (some ga)) na114 rfl f6 rfl) rfl rfl rfl ?_
                refine W.any (.move rfl) rfl rfl rfl ?_
                have f7 := (hA.le (h2_8.trans (h2_22.trans h2_28)))
                refine W.rd (.as (.lookup2 (key := nm) Try.underlying114 kint z123 rfl rfl f7) (by rw [hg] <;> rfl)) rfl rfl rfl ?_
                refine W.any (.move rfl) rfl rfl rfl ?_
                refine W.any (.extract (v := .pointer none) rfl rfl) rfl rfl rfl ?_
                refine W.any (.extract (v := .bool false) rfl rfl) rfl rfl rfl ?_
                refine W.any (.assign rfl) rfl rfl rfl ?_
                refine W.any (.assign rfl) rfl rfl rfl ?_
                refine W.nil ?_
                refine E.thenN ?_
                refine WC.seq ?_
                refine WC.region ?_
                refine W.any (.move rfl) rfl rfl rfl ?_
                refine W.nil ?_
                refine E.thenN ?_
                refine WC.condF rfl ?_
                refine WC.skip ?_
                refine E.thenN ?_
                refine WC.seq ?_
                refine WC.region ?_
                refine W.any (.move rfl) rfl rfl rfl ?_
                refine W.any (.nilCheck rfl) rfl rfl rfl ?_
                refine W.any (.field0 fa117_0 rfl) rfl rfl rfl ?_
                refine W.rd (.loadB (v := .map (some ga)) na114 rfl f6 rfl) rfl rfl rfl ?_
                refine W.any (.move rfl) rfl rfl rfl ?_
                refine W.any (.move rfl) rfl rfl rfl ?_
                refine W.any (.move rfl) rfl rfl rfl ?_
                refine W.any (.move rfl) rfl rfl rfl ?_
                refine W.any (.move rfl) rfl rfl rfl ?_
                refine W.any (.buildP [.int .u64 (((sc : Nat) : Int)), .int .i64 (to), .int .i64 (by_), .int .i64 (le), .slice none 0 0, .int .i64 (0), .bool false, .bool false] pl126 z126 rfl rfl) rfl rfl rfl ?_
                refine W.ef rfl rfl rfl ?_
                refine Ef.boxA rfl ?_
                intro g7_10 w7_10 hg7_10 b7_10 h7_10
                have L8 := L5.le h7_10
                have b7_10 : Blk w7_10 g7_10 126 #[.int .u64 (((sc : Nat) : Int)), .int .i64 (to), .int .i64 (by_), .int .i64 (le), .slice none 0 0, .int .i64 (0), .bool false, .bool false] := b7_10
                have f9 := (f7.le h7_10)
                refine W.ef0 rfl rfl ?_
                refine Ef.insertG (key := nm) (u := g7_10) Try.underlying114 kint rfl rfl rfl f9 (hg) ?_
                intro w7_11 b7_11 h7_11
                have L10 : ChP w w7_11 (fun k => k = ga) := L8.ch h7_11 (fun i hi _ => by cases hi; exact rfl)
                refine W.nil ?_
                refine E.thenN ?_
                refine WC.seq ?_
                refine WC.region ?_
                refine W.any (.assign rfl) rfl rfl rfl ?_
                refine W.nil ?_
                refine E.thenN ?_
                refine WC.ret ?_
                have f11 := (b7_10.ch h7_11 (fun h => (show ga ≠ g7_10 from by have := f7.lt; omega) (Option.some.inj h)))
                refine E.retG1 rfl rfl ?_
                exact ⟨L10, .inr ⟨(by unfold wantOk; omega), rfl, _, (by have := L5.size; omega), f11, b7_11⟩⟩
              · refine WC.condY rfl (congrArg not (decide_eq_false c0)) ?_
                refine WC.seq ?_
                refine WC.region ?_
                refine W.any (.assign rfl) rfl rfl rfl ?_
                refine W.nil ?_
                refine E.thenN ?_
                refine WC.ret ?_
                refine E.thenR ?_
                have f12 := (hA.le (h2_8.trans (h2_22.trans h2_28)))
                refine E.retG1 rfl rfl ?_
                exact ⟨L5, .inl ⟨(fun h => by unfold wantOk at h; omega), rfl, f12⟩⟩
            · refine W.any (.dec (.move rfl) (congrArg not (decide_eq_false q2_25))) rfl rfl rfl ?_
              refine W.skip rfl rfl rfl (rfl) rfl rfl ?_
              refine W.skip rfl rfl rfl (rfl) rfl rfl ?_
              refine W.skip rfl rfl rfl (rfl) rfl rfl ?_
              refine W.skip rfl rfl rfl (rfl) rfl rfl ?_
              refine W.any (.pickT rfl rfl rfl) rfl rfl rfl ?_
              refine W.nil ?_
              refine E.thenN ?_
              refine WC.condT rfl ?_
              refine WC.seq ?_
              refine WC.region ?_
              refine W.any (.assign rfl) rfl rfl rfl ?_
              refine W.nil ?_
              refine E.thenN ?_
              refine WC.ret ?_
              refine E.thenR ?_
              have f13 := (hA.le (h2_8.trans h2_22))
              refine E.retG1 rfl rfl ?_
              exact ⟨L4, .inl ⟨(fun h => by unfold wantOk at h; omega), rfl, f13⟩⟩
      · refine W.any (.dec (.move rfl) (congrArg not (decide_eq_false q2_11))) rfl rfl rfl ?_
        refine W.skip rfl rfl rfl (rfl) rfl rfl ?_
        refine W.skip rfl rfl rfl (rfl) rfl rfl ?_
        refine W.any (.pickT rfl rfl rfl) rfl rfl rfl ?_
        refine W.any (.move rfl) rfl rfl rfl ?_
        refine W.skip rfl rfl rfl (rfl) rfl rfl ?_
        refine W.skip rfl rfl rfl (rfl) rfl rfl ?_
        refine W.any (.pickT rfl rfl rfl) rfl rfl rfl ?_
        refine W.any (.move rfl) rfl rfl rfl ?_
        refine W.skip rfl rfl rfl (rfl) rfl rfl ?_
        refine W.skip rfl rfl rfl (rfl) rfl rfl ?_
        refine W.skip rfl rfl rfl (rfl) rfl rfl ?_
        refine W.skip rfl rfl rfl (rfl) rfl rfl ?_
        refine W.any (.pickT rfl rfl rfl) rfl rfl rfl ?_
        refine W.any (.move rfl) rfl rfl rfl ?_
        refine W.skip rfl rfl rfl (rfl) rfl rfl ?_
        refine W.skip rfl rfl rfl (rfl) rfl rfl ?_
        refine W.skip rfl rfl rfl (rfl) rfl rfl ?_
        refine W.skip rfl rfl rfl (rfl) rfl rfl ?_
        refine W.any (.pickT rfl rfl rfl) rfl rfl rfl ?_
        refine W.nil ?_
        refine E.thenN ?_
        refine WC.condT rfl ?_
        refine WC.seq ?_
        refine WC.region ?_
        refine W.any (.assign rfl) rfl rfl rfl ?_
        refine W.nil ?_
        refine E.thenN ?_
        refine WC.ret ?_
        refine E.thenR ?_
        have f14 := (hA.le h2_8)
        refine E.retG1 rfl rfl ?_
        exact ⟨L1, .inl ⟨(fun h => by unfold wantOk at h; omega), rfl, f14⟩⟩
end Go.Proofs.Ytfgakofjkldcjaa

