/- LedgerSheets: for every input the law answers true and leaves its arguments as they were. -/
import Derived.Test.YtgpaekbdbpkogaaGreatLedgerSheetsL
import Derived.Lib.Mul64
set_option linter.unusedVariables false
set_option linter.unusedSimpArgs false
namespace Go.Proofs.YtgpaekbdbpkogaaGreat
open Tryz
open Go Go.Sx
set_option maxRecDepth 20000
theorem mul64_ok (x y : Nat) (hx : x < 18446744073709551616) (hy : y < 18446744073709551616) (w : World) : Calls prog 111 #[.int .u64 ((x : Nat) : Int), .int .u64 ((y : Nat) : Int)] w fun e w' => e = .returned (.tuple #[.int .u64 ((x * y / 18446744073709551616 : Nat) : Int), .int .u64 ((x * y % 18446744073709551616 : Nat) : Int)]) /\ Le w w' := by
 obtain ⟨h1, h2, h3, h4⟩ := Go.Lib.mul64_hi x y hx hy
 have h5 : x * y / 18446744073709551616 < 18446744073709551616 := by
  rw [Nat.div_lt_iff_lt_mul (by decide)]
  exact Nat.mul_lt_mul'' hx hy
 have ha := Go.Lib.half_mul_le (a := x / 4294967296) (b := y / 4294967296) (by omega) (by omega)
 have hb := Go.Lib.half_mul_le (a := x / 4294967296) (b := y % 4294967296) (by omega) (by omega)
 have hc := Go.Lib.half_mul_le (a := x % 4294967296) (b := y / 4294967296) (by omega) (by omega)
 refine enter func111 rfl rfl ?_
 have L0 := Le.refl w
 refine WC.sr (W.run 2 rfl (W.nx (WC.sr (W.run 1 rfl ?_))))
 refine W.a (.andE (x) (4294967295) (x % 4294967296) rfl rfl rfl rfl (by omega) (by omega) (mask32 _)) ?_
 refine W.run 1 rfl (W.nx (WC.sr (W.run 1 rfl ?_)))
 refine W.a (.shrE (x) (32) (x / 4294967296) rfl rfl rfl rfl (by decide) (rfl)) ?_
 refine W.run 1 rfl (W.nx (WC.sr (W.run 1 rfl ?_)))
 refine W.a (.andE (y) (4294967295) (y % 4294967296) rfl rfl rfl rfl (by omega) (by omega) (mask32 _)) ?_
 refine W.run 1 rfl (W.nx (WC.sr (W.run 1 rfl ?_)))
 refine W.a (.shrE (y) (32) (y / 4294967296) rfl rfl rfl rfl (by decide) (rfl)) ?_
 refine W.run 1 rfl (W.nx (WC.sr (W.run 2 rfl ?_)))
 refine W.a (.mulN (x % 4294967296) (y % 4294967296) ((x % 4294967296) * (y % 4294967296)) rfl rfl rfl rfl (Nat.mod_eq_of_lt h1)) ?_
 refine W.run 1 rfl (W.nx (WC.sr (W.run 2 rfl ?_)))
 refine W.a (.mulN (x / 4294967296) (y % 4294967296) ((x / 4294967296) * (y % 4294967296)) rfl rfl rfl rfl (Nat.mod_eq_of_lt (by omega))) ?_
 refine W.run 1 rfl ?_
 refine W.a (.shrE ((x % 4294967296) * (y % 4294967296)) (32) ((x % 4294967296) * (y % 4294967296) / 4294967296) rfl rfl rfl rfl (by decide) (rfl)) ?_
 refine W.a (.addN ((x / 4294967296) * (y % 4294967296)) ((x % 4294967296) * (y % 4294967296) / 4294967296) ((x / 4294967296) * (y % 4294967296) + (x % 4294967296) * (y % 4294967296) / 4294967296) rfl rfl rfl rfl (Nat.mod_eq_of_lt h2)) ?_
 refine W.run 1 rfl (W.nx (WC.sr (W.run 1 rfl ?_)))
 refine W.a (.andE ((x / 4294967296) * (y % 4294967296) + (x % 4294967296) * (y % 4294967296) / 4294967296) (4294967295) (((x / 4294967296) * (y % 4294967296) + (x % 4294967296) * (y % 4294967296) / 4294967296) % 4294967296) rfl rfl rfl rfl (by omega) (by omega) (mask32 _)) ?_
 refine W.run 1 rfl (W.nx (WC.sr (W.run 1 rfl ?_)))
 refine W.a (.shrE ((x / 4294967296) * (y % 4294967296) + (x % 4294967296) * (y % 4294967296) / 4294967296) (32) (((x / 4294967296) * (y % 4294967296) + (x % 4294967296) * (y % 4294967296) / 4294967296) / 4294967296) rfl rfl rfl rfl (by decide) (rfl)) ?_
 refine W.run 1 rfl (W.nx (WC.sr (W.run 3 rfl ?_)))
 refine W.a (.mulN (x % 4294967296) (y / 4294967296) ((x % 4294967296) * (y / 4294967296)) rfl rfl rfl rfl (Nat.mod_eq_of_lt (by omega))) ?_
 refine W.a (.addN (((x / 4294967296) * (y % 4294967296) + (x % 4294967296) * (y % 4294967296) / 4294967296) % 4294967296) ((x % 4294967296) * (y / 4294967296)) (((x / 4294967296) * (y % 4294967296) + (x % 4294967296) * (y % 4294967296) / 4294967296) % 4294967296 + (x % 4294967296) * (y / 4294967296)) rfl rfl rfl rfl (Nat.mod_eq_of_lt h3)) ?_
 refine W.run 1 rfl (W.nx (WC.sr (W.run 2 rfl ?_)))
 refine W.a (.mulN (x / 4294967296) (y / 4294967296) ((x / 4294967296) * (y / 4294967296)) rfl rfl rfl rfl (Nat.mod_eq_of_lt (by omega))) ?_
 refine W.run 1 rfl ?_
 refine W.a (.addN ((x / 4294967296) * (y / 4294967296)) (((x / 4294967296) * (y % 4294967296) + (x % 4294967296) * (y % 4294967296) / 4294967296) / 4294967296) ((x / 4294967296) * (y / 4294967296) + ((x / 4294967296) * (y % 4294967296) + (x % 4294967296) * (y % 4294967296) / 4294967296) / 4294967296) rfl rfl rfl rfl (Nat.mod_eq_of_lt (by omega))) ?_
 refine W.run 1 rfl ?_
 refine W.a (.shrE (((x / 4294967296) * (y % 4294967296) + (x % 4294967296) * (y % 4294967296) / 4294967296) % 4294967296 + (x % 4294967296) * (y / 4294967296)) (32) ((((x / 4294967296) * (y % 4294967296) + (x % 4294967296) * (y % 4294967296) / 4294967296) % 4294967296 + (x % 4294967296) * (y / 4294967296)) / 4294967296) rfl rfl rfl rfl (by decide) (rfl)) ?_
 refine W.a (.addN ((x / 4294967296) * (y / 4294967296) + ((x / 4294967296) * (y % 4294967296) + (x % 4294967296) * (y % 4294967296) / 4294967296) / 4294967296) ((((x / 4294967296) * (y % 4294967296) + (x % 4294967296) * (y % 4294967296) / 4294967296) % 4294967296 + (x % 4294967296) * (y / 4294967296)) / 4294967296) (x * y / 18446744073709551616) rfl rfl rfl rfl ((Nat.mod_eq_of_lt (by rw [h4]; exact h5)).trans h4)) ?_
 refine W.run 1 rfl (W.nx (WC.sr (W.run 2 rfl ?_)))
 refine W.a (.mulN (x) (y) (x * y % 18446744073709551616) rfl rfl rfl rfl (rfl)) ?_
 refine W.run 1 rfl (W.nx (WC.ret ?_))
 refine E.ret2 rfl rfl rfl ?_
 exact ⟨rfl, L0⟩

def tab8 : ByteArray := ⟨[0, 1, 2, 2, 3, 3, 3, 3, 4, 4, 4, 4, 4, 4, 4, 4, 5, 5, 5, 5, 5, 5, 5, 5, 5, 5, 5, 5, 5, 5, 5, 5, 6, 6, 6, 6, 6, 6, 6, 6, 6, 6, 6, 6, 6, 6, 6, 6, 6, 6, 6, 6, 6, 6, 6, 6, 6, 6, 6, 6, 6, 6, 6, 6, 7, 7, 7, 7, 7, 7, 7, 7, 7, 7, 7, 7, 7, 7, 7, 7, 7, 7, 7, 7, 7, 7, 7, 7, 7, 7, 7, 7, 7, 7, 7, 7, 7, 7, 7, 7, 7, 7, 7, 7, 7, 7, 7, 7, 7, 7, 7, 7, 7, 7, 7, 7, 7, 7, 7, 7, 7, 7, 7, 7, 7, 7, 7, 7, 8, 8, 8, 8, 8, 8, 8, 8, 8, 8, 8, 8, 8, 8, 8, 8, 8, 8, 8, 8, 8, 8, 8, 8, 8, 8, 8, 8, 8, 8, 8, 8, 8, 8, 8, 8, 8, 8, 8, 8, 8, 8, 8, 8, 8, 8, 8, 8, 8, 8, 8, 8, 8, 8, 8, 8, 8, 8, 8, 8, 8, 8, 8, 8, 8, 8, 8, 8, 8, 8, 8, 8, 8, 8, 8, 8, 8, 8, 8, 8, 8, 8, 8, 8, 8, 8, 8, 8, 8, 8, 8, 8, 8, 8, 8, 8, 8, 8, 8, 8, 8, 8, 8, 8, 8, 8, 8, 8, 8, 8, 8, 8, 8, 8, 8, 8, 8, 8, 8, 8, 8, 8, 8, 8, 8, 8, 8, 8].toArray⟩

theorem len8 : ∀ m, 16 <= m -> m < 64 -> tab8[m]? = some (if m < 32 then 5 else 6) := by
  have h : ∀ m : Fin 64, 16 <= m.val -> tab8[m.val]? = some (if m.val < 32 then 5 else 6) := by decide +kernel
  exact fun m h1 h2 => h ⟨m, h2⟩ h1

theorem len64_ok (y : Nat) (h1 : 1152921504606846976 <= y) (h2 : y < 4611686018427387904) (w : World) : Calls prog 129 #[.int .u64 ((y : Nat) : Int)] w fun e w' => e = .returned (.int .i64 (if y < 2305843009213693952 then 61 else 62)) /\ Le w w' := by
 refine enter func129 rfl rfl ?_
 have L0 := Le.refl w
 refine WC.sr (W.run 1 rfl (W.nx (WC.seq (WC.sr (W.run 2 rfl (W.nx ?_))))))
 refine WC.condB rfl (fun _ => ?_) (fun h => absurd h (by simp; omega))
 refine WC.sr (W.run 1 rfl ?_)
 refine W.a (.shrE (y) (32) (y / 4294967296) rfl rfl rfl rfl (by decide) (rfl)) ?_
 refine W.run 1 rfl (W.nx (WC.region (W.run 1 rfl (W.nx (WC.seq (WC.sr (W.run 2 rfl (W.nx ?_))))))))
 refine WC.condB rfl (fun _ => ?_) (fun h => absurd h (by simp; omega))
 refine WC.sr (W.run 1 rfl ?_)
 refine W.a (.shrE (y / 4294967296) (16) (y / 281474976710656) rfl rfl rfl rfl (by decide) (by omega)) ?_
 refine W.run 1 rfl (W.nx (WC.region (W.run 1 rfl ?_)))
 refine W.a (.add rfl rfl (by omega)) ?_
 refine W.run 1 rfl (W.nx (WC.seq (WC.sr (W.run 2 rfl (W.nx ?_)))))
 refine WC.condB rfl (fun _ => ?_) (fun h => absurd h (by simp; omega))
 refine WC.sr (W.run 1 rfl ?_)
 refine W.a (.shrE (y / 281474976710656) (8) (y / 72057594037927936) rfl rfl rfl rfl (by decide) (by omega)) ?_
 refine W.run 1 rfl (W.nx (WC.region (W.run 1 rfl ?_)))
 refine W.a (.add rfl rfl (by omega)) ?_
 refine W.run 1 rfl (W.nx (WC.sr (W.run 2 rfl ?_)))
 refine W.r (.toU8 (y / 72057594037927936) (isS underlying34) underlying5 rfl rfl) ?_
 refine W.a (.idxStr (y / 72057594037927936) (if y / 72057594037927936 < 32 then 5 else 6) underlying9 rfl rfl (by rw [BitVec.toNat_ofNat, Nat.mod_eq_of_lt (by omega)]) (len8 (y / 72057594037927936) (by omega) (by omega))) ?_
 refine W.r (.idI (isS underlying5) underlying3 rfl (IntWalk.i64_in _ (by split <;> decide))) ?_
 refine W.a (.add rfl rfl (by split <;> decide)) ?_
 refine W.run 1 rfl (W.nx (WC.ret ?_))
 refine E.ret1 rfl rfl ?_
 exact ⟨by congr 2; split <;> split <;> simp_all <;> omega, L0⟩

theorem lz64_ok (y : Nat) (h1 : 1152921504606846976 <= y) (h2 : y < 4611686018427387904) (w : World) : Calls prog 145 #[.int .u64 ((y : Nat) : Int)] w fun e w' => e = .returned (.int .i64 (if y < 2305843009213693952 then 3 else 2)) /\ Le w w' := by
 refine enter func145 rfl rfl ?_
 have L0 := Le.refl w
 refine WC.sr (W.run 1 rfl (W.nx (WC.sr (W.run 1 rfl ?_))))
 refine W.cl go129 rfl rfl (len64_ok y h1 h2 w) ?_
 rintro _ w1_1 ⟨rfl, h1_1⟩
 have L1_1 := L0.trans h1_1
 refine W.a (.sub rfl rfl (by split <;> omega)) ?_
 refine W.run 1 rfl (W.nx (WC.ret ?_))
 refine E.ret1 rfl rfl ?_
 exact ⟨by congr 2; split <;> rfl, L1_1⟩

theorem div64_ok2 (h l y : Nat) (h1 : 2305843009213693952 <= y) (h2 : y < 4611686018427387904) (hh : h < y) (hl : l < 18446744073709551616) (w : World) : Calls prog 134 #[.int .u64 ((h : Nat) : Int), .int .u64 ((l : Nat) : Int), .int .u64 ((y : Nat) : Int)] w fun e w' => ∃ qq : Int, e = .returned (.tuple #[.int .u64 qq, .int .u64 (((h * 18446744073709551616 + l) % y : Nat) : Int)]) /\ Le w w' := by
 obtain ⟨Y, hYd⟩ : ∃ Y, Y = y * 4 := ⟨_, rfl⟩
 obtain ⟨a, ha⟩ : ∃ a, a = Y / 4294967296 := ⟨_, rfl⟩
 obtain ⟨b, hb0⟩ : ∃ b, b = Y % 4294967296 := ⟨_, rfl⟩
 obtain ⟨U, hUd⟩ : ∃ U, U = h * 4 + l / 4611686018427387904 := ⟨_, rfl⟩
 obtain ⟨v, hv⟩ : ∃ v, v = l * 4 % 18446744073709551616 := ⟨_, rfl⟩
 obtain ⟨e1, he1⟩ : ∃ e1, e1 = v / 4294967296 := ⟨_, rfl⟩
 obtain ⟨e0, he0⟩ : ∃ e0, e0 = v % 4294967296 := ⟨_, rfl⟩
 have hY : Y = a * 4294967296 + b := by omega
 have hYlo : 9223372036854775808 <= Y := by omega
 have hYhi : Y < 18446744073709551616 := by omega
 have ha1 : 2147483648 <= a := by omega
 have ha2 : a < 4294967296 := by omega
 have hb1 : b < 4294967296 := by omega
 have hv2 : v < 18446744073709551616 := by omega
 have he12 : e1 < 4294967296 := by omega
 have he02 : e0 < 4294967296 := by omega
 have hU : U < Y := by omega
 obtain ⟨R, hR⟩ : ∃ R, R = (U * 4294967296 + e1) % Y := ⟨_, rfl⟩
 obtain ⟨Q1, hQ1⟩ : ∃ Q1, Q1 = (U * 4294967296 + e1) / Y := ⟨_, rfl⟩
 obtain ⟨Q2, hQ2⟩ : ∃ Q2, Q2 = (R * 4294967296 + e0) / Y := ⟨_, rfl⟩
 have hRY : R < Y := by rw [hR]; exact Nat.mod_lt _ (by omega)
 have hfin : (R * 4294967296 + e0) % Y / 2 ^ 2 = (h * 18446744073709551616 + l) % y := div_fin2 h l y Y U v e1 e0 R hYd hUd hv he1 he0 hR (by omega)
 have hlz : ∀ w, Calls prog 145 #[.int .u64 ((y : Nat) : Int)] w (fun e w' => e = .returned (.int .i64 2) /\ Le w w') := fun w => by
  have := lz64_ok y (by omega) (by omega) w
  rw [if_neg (by omega)] at this
  exact this
 refine enter func134 rfl rfl ?_
 have L0 := Le.refl w
 refine WC.sr (W.run 2 rfl (W.nx (WC.seq (WC.sr (W.run 2 rfl (W.nx ?_))))))
 refine WC.condB rfl (fun h => absurd h (by simp; omega)) (fun _ => ?_)
 refine WC.sn (WC.seq (WC.sr (W.run 3 rfl (W.nx ?_))))
 refine WC.condB rfl (fun h => absurd h (by simp; omega)) (fun _ => ?_)
 refine WC.sn (WC.seq (WC.sr (W.run 2 rfl (W.nx ?_))))
 refine WC.cond rfl (fun c2 => ?_) (fun c2 => ?_)
 ·have h0 : h = 0 := by omega
  subst h0
  refine WC.seq ?_
  refine WC.draw [0, 1, 2, 3, 4, 5, 6, 7] mixed (by kernel_rfl) ?_
  intro w6 d6
  have L6 := L0.trans d6
  refine G.run 2 rfl ?_
  refine G.a rfl (.quoN (l) (y) (l / y) rfl rfl rfl rfl (by omega) (by omega) (rfl)) ?_
  refine G.run 2 rfl ?_
  refine G.a rfl (.remN (l) (y) (l % y) rfl rfl rfl rfl (by omega) (rfl)) ?_
  refine G.run 2 rfl (G.nil (E.thenN (WC.ret (E.thenR ?_))))
  refine E.ret2 rfl rfl rfl ?_
  exact ⟨_, by rw [Nat.zero_mul, Nat.zero_add], L6⟩
 refine WC.sn (WC.sr (W.run 1 rfl ?_))
 refine W.cl go145 rfl rfl (hlz w) ?_
 rintro _ w7_1 ⟨rfl, h7_1⟩
 have L7_1 := L0.trans h7_1
 refine W.r (.idI (isS underlying3) underlying147 rfl (IntWalk.u64_in _ (by decide))) ?_
 refine W.run 1 rfl (W.nx (WC.sr (W.run 2 rfl ?_)))
 refine W.a (.shlN (y) (2) (Y) rfl rfl rfl rfl (by decide) (by omega)) ?_
 refine W.run 1 rfl (W.nx (WC.sr (W.run 1 rfl ?_)))
 refine W.a (.shrE (Y) (32) (a) rfl rfl rfl rfl (by decide) (by omega)) ?_
 refine W.run 1 rfl (W.nx (WC.sr (W.run 1 rfl ?_)))
 refine W.a (.andE (Y) (4294967295) (b) rfl rfl rfl rfl (by omega) (by omega) ((mask32 _).trans hb0.symm)) ?_
 refine W.run 1 rfl (W.nx (WC.sr (W.run 2 rfl ?_)))
 refine W.a (.shlN (h) (2) (h * 4) rfl rfl rfl rfl (by decide) (by omega)) ?_
 refine W.run 2 rfl ?_
 refine W.a (.subN (64) (2) (62) rfl rfl rfl rfl (by decide) (by decide)) ?_
 refine W.a (.shrE (l) (62) (l / 4611686018427387904) rfl rfl rfl rfl (by decide) (rfl)) ?_
 refine W.a (.orE (h * 4) (l / 4611686018427387904) (U) rfl rfl rfl rfl (by omega) (by omega) (by rw [hUd, Nat.mul_comm h, show (4 : Nat) = 2 ^ 2 by decide]; exact (Nat.two_pow_add_eq_or_of_lt (by omega) _).symm)) ?_
 refine W.run 1 rfl (W.nx (WC.sr (W.run 2 rfl ?_)))
 refine W.a (.shlN (l) (2) (v) rfl rfl rfl rfl (by decide) (hv.symm)) ?_
 refine W.run 1 rfl (W.nx (WC.sr (W.run 1 rfl ?_)))
 refine W.a (.shrE (v) (32) (e1) rfl rfl rfl rfl (by decide) (by omega)) ?_
 refine W.run 1 rfl (W.nx (WC.sr (W.run 1 rfl ?_)))
 refine W.a (.andE (v) (4294967295) (e0) rfl rfl rfl rfl (by omega) (by omega) ((mask32 _).trans he0.symm)) ?_
 refine W.run 1 rfl (W.nx (WC.sr (W.run 2 rfl ?_)))
 refine W.a (.quoN (U) (a) (U / a) rfl rfl rfl rfl (by omega) (by omega) (rfl)) ?_
 refine W.run 1 rfl (W.nx (WC.sr (W.run 3 rfl ?_)))
 refine W.a (.mulN (U / a) (a) (U / a * a) rfl rfl rfl rfl (Nat.mod_eq_of_lt (Nat.lt_of_le_of_lt (Nat.div_mul_le_self _ _) (by omega)))) ?_
 refine W.a (.subN (U) (U / a * a) (U % a) rfl rfl rfl rfl (Nat.le_trans (Nat.div_mul_le_self _ _) (by omega)) (sub_div U a (by omega))) ?_
 refine W.run 1 rfl (W.nx ?_)
 refine WC.cut (ι := Unit) (fun () => [(2, .int .u64 ((Y : Nat) : Int)), (8, .int .u64 (2 : Int)), (9, .int .u64 ((a : Nat) : Int)), (10, .int .u64 ((b : Nat) : Int)), (11, .int .u64 ((U : Nat) : Int)), (13, .int .u64 ((e1 : Nat) : Int)), (14, .int .u64 ((e0 : Nat) : Int)), (15, .int .u64 ((Q1 : Nat) : Int))]) (fun () wc15 => Le w wc15) ?_ ?_
 ·refine WC.block ?_
  refine WC.loop (ι := Nat × Nat) (fun ⟨qh, rh⟩ => [(2, .int .u64 ((Y : Nat) : Int)), (8, .int .u64 (2 : Int)), (9, .int .u64 ((a : Nat) : Int)), (10, .int .u64 ((b : Nat) : Int)), (11, .int .u64 ((U : Nat) : Int)), (13, .int .u64 ((e1 : Nat) : Int)), (14, .int .u64 ((e0 : Nat) : Int)), (15, .int .u64 ((qh : Nat) : Int)), (16, .int .u64 ((rh : Nat) : Int))]) (fun ⟨qh, rh⟩ wl => Le w wl /\ qh * a + rh = U /\ Q1 <= qh /\ rh < 4294967296 /\ qh <= 4294967297) (fun ⟨qh, rh⟩ => qh) (U / a, U % a) ?_ ?_ ?_
  ·exact .cons rfl (.cons rfl (.cons rfl (.cons rfl (.cons rfl (.cons rfl (.cons rfl (.cons rfl (.cons rfl (.nil _)))))))))
  ·exact ⟨L7_1, by rw [Nat.mul_comm]; exact Nat.div_add_mod _ _, by rw [hQ1]; exact dig_start hY (by omega) hU (by omega), Nat.lt_of_lt_of_le (Nat.mod_lt _ (by omega)) (by omega), dig_first hY (by omega) (by omega) hU⟩
  rintro ⟨qh, rh⟩ wl ⟨Ll, hi, hq, hr, hq2⟩
  refine WC.seq (WC.sr (W.run 2 rfl ?_))
  by_cases hb : 4294967296 <= qh
  ·refine W.run 1 rfl ?_
   refine W.skip rfl rfl rfl (dT (by omega)) rfl rfl ?_
   refine W.skip rfl rfl rfl (dT (by omega)) rfl rfl ?_
   refine W.skip rfl rfl rfl (dT (by omega)) rfl rfl ?_
   refine W.skip rfl rfl rfl (dT (by omega)) rfl rfl ?_
   refine W.skip rfl rfl rfl (dT (by omega)) rfl rfl ?_
   refine W.skip rfl rfl rfl (dT (by omega)) rfl rfl ?_
   refine W.skip rfl rfl rfl (dT (by omega)) rfl rfl ?_
   refine W.skip rfl rfl rfl (dT (by omega)) rfl rfl ?_
   refine W.a (.pickT rfl (dT (by omega)) rfl) ?_
   have hgt : Q1 < qh := by rw [hQ1]; exact dig_gt hY hU (by omega) hi (by omega)
   have hd : qh * a = (qh - 1) * a + a := by rw [<- Nat.succ_mul]; congr 1; omega
   have hinv : (qh - 1) * a + (rh + a) = U := by omega
   refine W.nx (WC.condT rfl (WC.sn (WC.block (WC.sr (W.run 1 rfl ?_)))))
   refine W.a (.subN (qh) (1) (qh - 1) rfl rfl rfl rfl (by omega) (by omega)) ?_
   refine W.run 1 rfl (W.nx (WC.sr (W.run 2 rfl ?_)))
   refine W.a (.addN (rh) (a) (rh + a) rfl rfl rfl rfl (by omega)) ?_
   refine W.run 1 rfl (W.nx (WC.sr (W.run 2 rfl (W.nx ?_))))
   refine WC.cond rfl (fun c4 => ?_) (fun c4 => ?_)
   ·have hqe : qh - 1 = Q1 := Nat.le_antisymm (by rw [hQ1]; exact dig_brk hY (by omega) hb1 hinv (by omega) (by omega)) (by omega)
    refine WC.exit (E.blkX rfl (E.thenX (E.blkH ?_)))
    refine E.meet () (.cons rfl (.cons rfl (.cons rfl (.cons rfl (.cons rfl (.cons rfl (.cons rfl (.cons' rfl (int_eq (by rw [hqe])) (.nil _))))))))) ?_
    exact Ll
   refine WC.skip (E.blkN ?_)
   refine E.again (qh - 1, rh + a) (.cons rfl (.cons rfl (.cons rfl (.cons rfl (.cons rfl (.cons rfl (.cons rfl (.cons rfl (.cons rfl (.nil _)))))))))) ?_ ?_
   ·exact ⟨Ll, hinv, by omega, by omega, by omega⟩
   first | omega | (simp only []; omega)
  refine W.run 1 rfl ?_
  refine W.rdg (Any.rd (.move rfl) _) rfl rfl rfl (dF (by omega)) rfl rfl ?_
  refine W.rdg (Any.rd (.move rfl) _) rfl rfl rfl (dF (by omega)) rfl rfl ?_
  have hqb : qh * b < 18446744073709551616 := Nat.lt_of_le_of_lt (Nat.mul_le_mul (show qh <= 4294967295 by omega) (show b <= 4294967295 by omega)) (by decide)
  refine W.rdg (Any.rd (.mulN (qh) (b) (qh * b) rfl rfl rfl rfl (Nat.mod_eq_of_lt hqb)) _) rfl rfl rfl (dF (by omega)) rfl rfl ?_
  refine W.rdg (Any.rd (.move rfl) _) rfl rfl rfl (dF (by omega)) rfl rfl ?_
  refine W.rdg (Any.rd (.mulN (4294967296) (rh) (4294967296 * rh) rfl rfl rfl rfl (by omega)) _) rfl rfl rfl (dF (by omega)) rfl rfl ?_
  refine W.rdg (Any.rd (.move rfl) _) rfl rfl rfl (dF (by omega)) rfl rfl ?_
  refine W.rdg (Any.rd (.addN (4294967296 * rh) (e1) (4294967296 * rh + e1) rfl rfl rfl rfl (by omega)) _) rfl rfl rfl (dF (by omega)) rfl rfl ?_
  refine W.rdg (Any.rd (.gtr rfl rfl) _) rfl rfl rfl (dF (by omega)) rfl rfl ?_
  refine W.a (.pickF rfl (dF (by omega)) rfl) ?_
  refine W.nx ?_
  refine WC.cond rfl (fun c3 => ?_) (fun c3 => ?_)
  ·have hgt : Q1 < qh := by rw [hQ1]; exact dig_gt hY hU (by omega) hi (by omega)
   have hd : qh * a = (qh - 1) * a + a := by rw [<- Nat.succ_mul]; congr 1; omega
   have hinv : (qh - 1) * a + (rh + a) = U := by omega
   refine WC.sn (WC.block (WC.sr (W.run 1 rfl ?_)))
   refine W.a (.subN (qh) (1) (qh - 1) rfl rfl rfl rfl (by omega) (by omega)) ?_
   refine W.run 1 rfl (W.nx (WC.sr (W.run 2 rfl ?_)))
   refine W.a (.addN (rh) (a) (rh + a) rfl rfl rfl rfl (by omega)) ?_
   refine W.run 1 rfl (W.nx (WC.sr (W.run 2 rfl (W.nx ?_))))
   refine WC.cond rfl (fun c4 => ?_) (fun c4 => ?_)
   ·have hqe : qh - 1 = Q1 := Nat.le_antisymm (by rw [hQ1]; exact dig_brk hY (by omega) hb1 hinv (by omega) (by omega)) (by omega)
    refine WC.exit (E.blkX rfl (E.thenX (E.blkH ?_)))
    refine E.meet () (.cons rfl (.cons rfl (.cons rfl (.cons rfl (.cons rfl (.cons rfl (.cons rfl (.cons' rfl (int_eq (by rw [hqe])) (.nil _))))))))) ?_
    exact Ll
   refine WC.skip (E.blkN ?_)
   refine E.again (qh - 1, rh + a) (.cons rfl (.cons rfl (.cons rfl (.cons rfl (.cons rfl (.cons rfl (.cons rfl (.cons rfl (.cons rfl (.nil _)))))))))) ?_ ?_
   ·exact ⟨Ll, hinv, by omega, by omega, by omega⟩
   first | omega | (simp only []; omega)
  have hqe : qh = Q1 := Nat.le_antisymm (by rw [hQ1]; exact dig_le hY (by omega) hi (by omega)) hq
  refine WC.exit (E.thenX (E.thenX (E.blkH ?_)))
  refine E.meet () (.cons rfl (.cons rfl (.cons rfl (.cons rfl (.cons rfl (.cons rfl (.cons rfl (.cons' rfl (int_eq (by rw [hqe])) (.nil _))))))))) ?_
  exact Ll
 rintro ⟨⟩ wc15 Lc15
 refine WC.sr (W.run 1 rfl ?_)
 refine W.a (.mulN (U) (4294967296) (U * 4294967296 % 18446744073709551616) rfl rfl rfl rfl (rfl)) ?_
 refine W.run 1 rfl ?_
 refine W.a (.addN (U * 4294967296 % 18446744073709551616) (e1) ((U * 4294967296 + e1) % 18446744073709551616) rfl rfl rfl rfl (by rw [Nat.mod_add_mod])) ?_
 refine W.run 2 rfl ?_
 refine W.a (.mulN (Q1) (Y) (Q1 * Y % 18446744073709551616) rfl rfl rfl rfl (rfl)) ?_
 refine W.a (.subN ((U * 4294967296 + e1) % 18446744073709551616) (Q1 * Y % 18446744073709551616) (R) rfl rfl rfl rfl (Nat.le_of_lt (Nat.mod_lt _ (by decide))) ((dig_rest Y _ _ hQ1 (by omega) (by omega)).trans hR.symm)) ?_
 refine W.run 1 rfl (W.nx (WC.sr (W.run 2 rfl ?_)))
 refine W.a (.quoN (R) (a) (R / a) rfl rfl rfl rfl (by omega) (by omega) (rfl)) ?_
 refine W.run 1 rfl (W.nx (WC.sr (W.run 3 rfl ?_)))
 refine W.a (.mulN (R / a) (a) (R / a * a) rfl rfl rfl rfl (Nat.mod_eq_of_lt (Nat.lt_of_le_of_lt (Nat.div_mul_le_self _ _) (by omega)))) ?_
 refine W.a (.subN (R) (R / a * a) (R % a) rfl rfl rfl rfl (Nat.le_trans (Nat.div_mul_le_self _ _) (by omega)) (sub_div R a (by omega))) ?_
 refine W.run 1 rfl (W.nx ?_)
 refine WC.cut (ι := Unit) (fun () => [(2, .int .u64 ((Y : Nat) : Int)), (8, .int .u64 (2 : Int)), (9, .int .u64 ((a : Nat) : Int)), (10, .int .u64 ((b : Nat) : Int)), (14, .int .u64 ((e0 : Nat) : Int)), (17, .int .u64 ((R : Nat) : Int)), (15, .int .u64 ((Q1 : Nat) : Int)), (18, .int .u64 ((Q2 : Nat) : Int))]) (fun () wc18 => Le w wc18) ?_ ?_
 ·refine WC.block ?_
  refine WC.loop (ι := Nat × Nat) (fun ⟨qh, rh⟩ => [(2, .int .u64 ((Y : Nat) : Int)), (8, .int .u64 (2 : Int)), (9, .int .u64 ((a : Nat) : Int)), (10, .int .u64 ((b : Nat) : Int)), (14, .int .u64 ((e0 : Nat) : Int)), (17, .int .u64 ((R : Nat) : Int)), (15, .int .u64 ((Q1 : Nat) : Int)), (18, .int .u64 ((qh : Nat) : Int)), (16, .int .u64 ((rh : Nat) : Int))]) (fun ⟨qh, rh⟩ wl => Le w wl /\ qh * a + rh = R /\ Q2 <= qh /\ rh < 4294967296 /\ qh <= 4294967297) (fun ⟨qh, rh⟩ => qh) (R / a, R % a) ?_ ?_ ?_
  ·exact .cons rfl (.cons rfl (.cons rfl (.cons rfl (.cons rfl (.cons rfl (.cons rfl (.cons rfl (.cons rfl (.nil _)))))))))
  ·exact ⟨Lc15, by rw [Nat.mul_comm]; exact Nat.div_add_mod _ _, by rw [hQ2]; exact dig_start hY (by omega) hRY (by omega), Nat.lt_of_lt_of_le (Nat.mod_lt _ (by omega)) (by omega), dig_first hY (by omega) (by omega) hRY⟩
  rintro ⟨qh, rh⟩ wl ⟨Ll, hi, hq, hr, hq2⟩
  refine WC.seq (WC.sr (W.run 2 rfl ?_))
  by_cases hb : 4294967296 <= qh
  ·refine W.run 1 rfl ?_
   refine W.skip rfl rfl rfl (dT (by omega)) rfl rfl ?_
   refine W.skip rfl rfl rfl (dT (by omega)) rfl rfl ?_
   refine W.skip rfl rfl rfl (dT (by omega)) rfl rfl ?_
   refine W.skip rfl rfl rfl (dT (by omega)) rfl rfl ?_
   refine W.skip rfl rfl rfl (dT (by omega)) rfl rfl ?_
   refine W.skip rfl rfl rfl (dT (by omega)) rfl rfl ?_
   refine W.skip rfl rfl rfl (dT (by omega)) rfl rfl ?_
   refine W.skip rfl rfl rfl (dT (by omega)) rfl rfl ?_
   refine W.a (.pickT rfl (dT (by omega)) rfl) ?_
   have hgt : Q2 < qh := by rw [hQ2]; exact dig_gt hY hRY (by omega) hi (by omega)
   have hd : qh * a = (qh - 1) * a + a := by rw [<- Nat.succ_mul]; congr 1; omega
   have hinv : (qh - 1) * a + (rh + a) = R := by omega
   refine W.nx (WC.condT rfl (WC.sn (WC.block (WC.sr (W.run 1 rfl ?_)))))
   refine W.a (.subN (qh) (1) (qh - 1) rfl rfl rfl rfl (by omega) (by omega)) ?_
   refine W.run 1 rfl (W.nx (WC.sr (W.run 2 rfl ?_)))
   refine W.a (.addN (rh) (a) (rh + a) rfl rfl rfl rfl (by omega)) ?_
   refine W.run 1 rfl (W.nx (WC.sr (W.run 2 rfl (W.nx ?_))))
   refine WC.cond rfl (fun c6 => ?_) (fun c6 => ?_)
   ·have hqe : qh - 1 = Q2 := Nat.le_antisymm (by rw [hQ2]; exact dig_brk hY (by omega) hb1 hinv (by omega) (by omega)) (by omega)
    refine WC.exit (E.blkX rfl (E.thenX (E.blkH ?_)))
    refine E.meet () (.cons rfl (.cons rfl (.cons rfl (.cons rfl (.cons rfl (.cons rfl (.cons rfl (.cons' rfl (int_eq (by rw [hqe])) (.nil _))))))))) ?_
    exact Ll
   refine WC.skip (E.blkN ?_)
   refine E.again (qh - 1, rh + a) (.cons rfl (.cons rfl (.cons rfl (.cons rfl (.cons rfl (.cons rfl (.cons rfl (.cons rfl (.cons rfl (.nil _)))))))))) ?_ ?_
   ·exact ⟨Ll, hinv, by omega, by omega, by omega⟩
   first | omega | (simp only []; omega)
  refine W.run 1 rfl ?_
  refine W.rdg (Any.rd (.move rfl) _) rfl rfl rfl (dF (by omega)) rfl rfl ?_
  refine W.rdg (Any.rd (.move rfl) _) rfl rfl rfl (dF (by omega)) rfl rfl ?_
  have hqb : qh * b < 18446744073709551616 := Nat.lt_of_le_of_lt (Nat.mul_le_mul (show qh <= 4294967295 by omega) (show b <= 4294967295 by omega)) (by decide)
  refine W.rdg (Any.rd (.mulN (qh) (b) (qh * b) rfl rfl rfl rfl (Nat.mod_eq_of_lt hqb)) _) rfl rfl rfl (dF (by omega)) rfl rfl ?_
  refine W.rdg (Any.rd (.move rfl) _) rfl rfl rfl (dF (by omega)) rfl rfl ?_
  refine W.rdg (Any.rd (.mulN (4294967296) (rh) (4294967296 * rh) rfl rfl rfl rfl (by omega)) _) rfl rfl rfl (dF (by omega)) rfl rfl ?_
  refine W.rdg (Any.rd (.move rfl) _) rfl rfl rfl (dF (by omega)) rfl rfl ?_
  refine W.rdg (Any.rd (.addN (4294967296 * rh) (e0) (4294967296 * rh + e0) rfl rfl rfl rfl (by omega)) _) rfl rfl rfl (dF (by omega)) rfl rfl ?_
  refine W.rdg (Any.rd (.gtr rfl rfl) _) rfl rfl rfl (dF (by omega)) rfl rfl ?_
  refine W.a (.pickF rfl (dF (by omega)) rfl) ?_
  refine W.nx ?_
  refine WC.cond rfl (fun c5 => ?_) (fun c5 => ?_)
  ·have hgt : Q2 < qh := by rw [hQ2]; exact dig_gt hY hRY (by omega) hi (by omega)
   have hd : qh * a = (qh - 1) * a + a := by rw [<- Nat.succ_mul]; congr 1; omega
   have hinv : (qh - 1) * a + (rh + a) = R := by omega
   refine WC.sn (WC.block (WC.sr (W.run 1 rfl ?_)))
   refine W.a (.subN (qh) (1) (qh - 1) rfl rfl rfl rfl (by omega) (by omega)) ?_
   refine W.run 1 rfl (W.nx (WC.sr (W.run 2 rfl ?_)))
   refine W.a (.addN (rh) (a) (rh + a) rfl rfl rfl rfl (by omega)) ?_
   refine W.run 1 rfl (W.nx (WC.sr (W.run 2 rfl (W.nx ?_))))
   refine WC.cond rfl (fun c6 => ?_) (fun c6 => ?_)
   ·have hqe : qh - 1 = Q2 := Nat.le_antisymm (by rw [hQ2]; exact dig_brk hY (by omega) hb1 hinv (by omega) (by omega)) (by omega)
    refine WC.exit (E.blkX rfl (E.thenX (E.blkH ?_)))
    refine E.meet () (.cons rfl (.cons rfl (.cons rfl (.cons rfl (.cons rfl (.cons rfl (.cons rfl (.cons' rfl (int_eq (by rw [hqe])) (.nil _))))))))) ?_
    exact Ll
   refine WC.skip (E.blkN ?_)
   refine E.again (qh - 1, rh + a) (.cons rfl (.cons rfl (.cons rfl (.cons rfl (.cons rfl (.cons rfl (.cons rfl (.cons rfl (.cons rfl (.nil _)))))))))) ?_ ?_
   ·exact ⟨Ll, hinv, by omega, by omega, by omega⟩
   first | omega | (simp only []; omega)
  have hqe : qh = Q2 := Nat.le_antisymm (by rw [hQ2]; exact dig_le hY (by omega) hi (by omega)) hq
  refine WC.exit (E.thenX (E.thenX (E.blkH ?_)))
  refine E.meet () (.cons rfl (.cons rfl (.cons rfl (.cons rfl (.cons rfl (.cons rfl (.cons rfl (.cons' rfl (int_eq (by rw [hqe])) (.nil _))))))))) ?_
  exact Ll
 rintro ⟨⟩ wc18 Lc18
 refine WC.sr (W.run 1 rfl ?_)
 refine W.a (.mulN (Q1) (4294967296) (Q1 * 4294967296 % 18446744073709551616) rfl rfl rfl rfl (rfl)) ?_
 refine W.run 1 rfl ?_
 refine W.a (.addN (Q1 * 4294967296 % 18446744073709551616) (Q2) ((Q1 * 4294967296 % 18446744073709551616 + Q2) % 18446744073709551616) rfl rfl rfl rfl (rfl)) ?_
 refine W.run 1 rfl ?_
 refine W.a (.mulN (R) (4294967296) (R * 4294967296 % 18446744073709551616) rfl rfl rfl rfl (rfl)) ?_
 refine W.run 1 rfl ?_
 refine W.a (.addN (R * 4294967296 % 18446744073709551616) (e0) ((R * 4294967296 + e0) % 18446744073709551616) rfl rfl rfl rfl (by rw [Nat.mod_add_mod])) ?_
 refine W.run 2 rfl ?_
 refine W.a (.mulN (Q2) (Y) (Q2 * Y % 18446744073709551616) rfl rfl rfl rfl (rfl)) ?_
 refine W.a (.subN ((R * 4294967296 + e0) % 18446744073709551616) (Q2 * Y % 18446744073709551616) ((R * 4294967296 + e0) % Y) rfl rfl rfl rfl (Nat.le_of_lt (Nat.mod_lt _ (by decide))) (dig_rest Y _ _ hQ2 (by omega) (by omega))) ?_
 refine W.run 1 rfl ?_
 refine W.a (.shrE ((R * 4294967296 + e0) % Y) (2) ((h * 18446744073709551616 + l) % y) rfl rfl rfl rfl (by decide) (hfin)) ?_
 refine W.run 2 rfl (W.nx (WC.ret ?_))
 refine E.ret2 rfl rfl rfl ?_
 exact ⟨_, rfl, Lc18⟩

theorem div64_ok3 (h l y : Nat) (h1 : 1152921504606846976 <= y) (h2 : y < 2305843009213693952) (hh : h < y) (hl : l < 18446744073709551616) (w : World) : Calls prog 134 #[.int .u64 ((h : Nat) : Int), .int .u64 ((l : Nat) : Int), .int .u64 ((y : Nat) : Int)] w fun e w' => ∃ qq : Int, e = .returned (.tuple #[.int .u64 qq, .int .u64 (((h * 18446744073709551616 + l) % y : Nat) : Int)]) /\ Le w w' := by
 obtain ⟨Y, hYd⟩ : ∃ Y, Y = y * 8 := ⟨_, rfl⟩
 obtain ⟨a, ha⟩ : ∃ a, a = Y / 4294967296 := ⟨_, rfl⟩
 obtain ⟨b, hb0⟩ : ∃ b, b = Y % 4294967296 := ⟨_, rfl⟩
 obtain ⟨U, hUd⟩ : ∃ U, U = h * 8 + l / 2305843009213693952 := ⟨_, rfl⟩
 obtain ⟨v, hv⟩ : ∃ v, v = l * 8 % 18446744073709551616 := ⟨_, rfl⟩
 obtain ⟨e1, he1⟩ : ∃ e1, e1 = v / 4294967296 := ⟨_, rfl⟩
 obtain ⟨e0, he0⟩ : ∃ e0, e0 = v % 4294967296 := ⟨_, rfl⟩
 have hY : Y = a * 4294967296 + b := by omega
 have hYlo : 9223372036854775808 <= Y := by omega
 have hYhi : Y < 18446744073709551616 := by omega
 have ha1 : 2147483648 <= a := by omega
 have ha2 : a < 4294967296 := by omega
 have hb1 : b < 4294967296 := by omega
 have hv2 : v < 18446744073709551616 := by omega
 have he12 : e1 < 4294967296 := by omega
 have he02 : e0 < 4294967296 := by omega
 have hU : U < Y := by omega
 obtain ⟨R, hR⟩ : ∃ R, R = (U * 4294967296 + e1) % Y := ⟨_, rfl⟩
 obtain ⟨Q1, hQ1⟩ : ∃ Q1, Q1 = (U * 4294967296 + e1) / Y := ⟨_, rfl⟩
 obtain ⟨Q2, hQ2⟩ : ∃ Q2, Q2 = (R * 4294967296 + e0) / Y := ⟨_, rfl⟩
 have hRY : R < Y := by rw [hR]; exact Nat.mod_lt _ (by omega)
 have hfin : (R * 4294967296 + e0) % Y / 2 ^ 3 = (h * 18446744073709551616 + l) % y := div_fin3 h l y Y U v e1 e0 R hYd hUd hv he1 he0 hR (by omega)
 have hlz : ∀ w, Calls prog 145 #[.int .u64 ((y : Nat) : Int)] w (fun e w' => e = .returned (.int .i64 3) /\ Le w w') := fun w => by
  have := lz64_ok y (by omega) (by omega) w
  rw [if_pos (by omega)] at this
  exact this
 refine enter func134 rfl rfl ?_
 have L0 := Le.refl w
 refine WC.sr (W.run 2 rfl (W.nx (WC.seq (WC.sr (W.run 2 rfl (W.nx ?_))))))
 refine WC.condB rfl (fun h => absurd h (by simp; omega)) (fun _ => ?_)
 refine WC.sn (WC.seq (WC.sr (W.run 3 rfl (W.nx ?_))))
 refine WC.condB rfl (fun h => absurd h (by simp; omega)) (fun _ => ?_)
 refine WC.sn (WC.seq (WC.sr (W.run 2 rfl (W.nx ?_))))
 refine WC.cond rfl (fun c2 => ?_) (fun c2 => ?_)
 ·have h0 : h = 0 := by omega
  subst h0
  refine WC.seq ?_
  refine WC.draw [0, 1, 2, 3, 4, 5, 6, 7] mixed (by kernel_rfl) ?_
  intro w6 d6
  have L6 := L0.trans d6
  refine G.run 2 rfl ?_
  refine G.a rfl (.quoN (l) (y) (l / y) rfl rfl rfl rfl (by omega) (by omega) (rfl)) ?_
  refine G.run 2 rfl ?_
  refine G.a rfl (.remN (l) (y) (l % y) rfl rfl rfl rfl (by omega) (rfl)) ?_
  refine G.run 2 rfl (G.nil (E.thenN (WC.ret (E.thenR ?_))))
  refine E.ret2 rfl rfl rfl ?_
  exact ⟨_, by rw [Nat.zero_mul, Nat.zero_add], L6⟩
 refine WC.sn (WC.sr (W.run 1 rfl ?_))
 refine W.cl go145 rfl rfl (hlz w) ?_
 rintro _ w7_1 ⟨rfl, h7_1⟩
 have L7_1 := L0.trans h7_1
 refine W.r (.idI (isS underlying3) underlying147 rfl (IntWalk.u64_in _ (by decide))) ?_
 refine W.run 1 rfl (W.nx (WC.sr (W.run 2 rfl ?_)))
 refine W.a (.shlN (y) (3) (Y) rfl rfl rfl rfl (by decide) (by omega)) ?_
 refine W.run 1 rfl (W.nx (WC.sr (W.run 1 rfl ?_)))
 refine W.a (.shrE (Y) (32) (a) rfl rfl rfl rfl (by decide) (by omega)) ?_
 refine W.run 1 rfl (W.nx (WC.sr (W.run 1 rfl ?_)))
 refine W.a (.andE (Y) (4294967295) (b) rfl rfl rfl rfl (by omega) (by omega) ((mask32 _).trans hb0.symm)) ?_
 refine W.run 1 rfl (W.nx (WC.sr (W.run 2 rfl ?_)))
 refine W.a (.shlN (h) (3) (h * 8) rfl rfl rfl rfl (by decide) (by omega)) ?_
 refine W.run 2 rfl ?_
 refine W.a (.subN (64) (3) (61) rfl rfl rfl rfl (by decide) (by decide)) ?_
 refine W.a (.shrE (l) (61) (l / 2305843009213693952) rfl rfl rfl rfl (by decide) (rfl)) ?_
 refine W.a (.orE (h * 8) (l / 2305843009213693952) (U) rfl rfl rfl rfl (by omega) (by omega) (by rw [hUd, Nat.mul_comm h, show (8 : Nat) = 2 ^ 3 by decide]; exact (Nat.two_pow_add_eq_or_of_lt (by omega) _).symm)) ?_
 refine W.run 1 rfl (W.nx (WC.sr (W.run 2 rfl ?_)))
 refine W.a (.shlN (l) (3) (v) rfl rfl rfl rfl (by decide) (hv.symm)) ?_
 refine W.run 1 rfl (W.nx (WC.sr (W.run 1 rfl ?_)))
 refine W.a (.shrE (v) (32) (e1) rfl rfl rfl rfl (by decide) (by omega)) ?_
 refine W.run 1 rfl (W.nx (WC.sr (W.run 1 rfl ?_)))
 refine W.a (.andE (v) (4294967295) (e0) rfl rfl rfl rfl (by omega) (by omega) ((mask32 _).trans he0.symm)) ?_
 refine W.run 1 rfl (W.nx (WC.sr (W.run 2 rfl ?_)))
 refine W.a (.quoN (U) (a) (U / a) rfl rfl rfl rfl (by omega) (by omega) (rfl)) ?_
 refine W.run 1 rfl (W.nx (WC.sr (W.run 3 rfl ?_)))
 refine W.a (.mulN (U / a) (a) (U / a * a) rfl rfl rfl rfl (Nat.mod_eq_of_lt (Nat.lt_of_le_of_lt (Nat.div_mul_le_self _ _) (by omega)))) ?_
 refine W.a (.subN (U) (U / a * a) (U % a) rfl rfl rfl rfl (Nat.le_trans (Nat.div_mul_le_self _ _) (by omega)) (sub_div U a (by omega))) ?_
 refine W.run 1 rfl (W.nx ?_)
 refine WC.cut (ι := Unit) (fun () => [(2, .int .u64 ((Y : Nat) : Int)), (8, .int .u64 (3 : Int)), (9, .int .u64 ((a : Nat) : Int)), (10, .int .u64 ((b : Nat) : Int)), (11, .int .u64 ((U : Nat) : Int)), (13, .int .u64 ((e1 : Nat) : Int)), (14, .int .u64 ((e0 : Nat) : Int)), (15, .int .u64 ((Q1 : Nat) : Int))]) (fun () wc15 => Le w wc15) ?_ ?_
 ·refine WC.block ?_
  refine WC.loop (ι := Nat × Nat) (fun ⟨qh, rh⟩ => [(2, .int .u64 ((Y : Nat) : Int)), (8, .int .u64 (3 : Int)), (9, .int .u64 ((a : Nat) : Int)), (10, .int .u64 ((b : Nat) : Int)), (11, .int .u64 ((U : Nat) : Int)), (13, .int .u64 ((e1 : Nat) : Int)), (14, .int .u64 ((e0 : Nat) : Int)), (15, .int .u64 ((qh : Nat) : Int)), (16, .int .u64 ((rh : Nat) : Int))]) (fun ⟨qh, rh⟩ wl => Le w wl /\ qh * a + rh = U /\ Q1 <= qh /\ rh < 4294967296 /\ qh <= 4294967297) (fun ⟨qh, rh⟩ => qh) (U / a, U % a) ?_ ?_ ?_
  ·exact .cons rfl (.cons rfl (.cons rfl (.cons rfl (.cons rfl (.cons rfl (.cons rfl (.cons rfl (.cons rfl (.nil _)))))))))
  ·exact ⟨L7_1, by rw [Nat.mul_comm]; exact Nat.div_add_mod _ _, by rw [hQ1]; exact dig_start hY (by omega) hU (by omega), Nat.lt_of_lt_of_le (Nat.mod_lt _ (by omega)) (by omega), dig_first hY (by omega) (by omega) hU⟩
  rintro ⟨qh, rh⟩ wl ⟨Ll, hi, hq, hr, hq2⟩
  refine WC.seq (WC.sr (W.run 2 rfl ?_))
  by_cases hb : 4294967296 <= qh
  ·refine W.run 1 rfl ?_
   refine W.skip rfl rfl rfl (dT (by omega)) rfl rfl ?_
   refine W.skip rfl rfl rfl (dT (by omega)) rfl rfl ?_
   refine W.skip rfl rfl rfl (dT (by omega)) rfl rfl ?_
   refine W.skip rfl rfl rfl (dT (by omega)) rfl rfl ?_
   refine W.skip rfl rfl rfl (dT (by omega)) rfl rfl ?_
   refine W.skip rfl rfl rfl (dT (by omega)) rfl rfl ?_
   refine W.skip rfl rfl rfl (dT (by omega)) rfl rfl ?_
   refine W.skip rfl rfl rfl (dT (by omega)) rfl rfl ?_
   refine W.a (.pickT rfl (dT (by omega)) rfl) ?_
   have hgt : Q1 < qh := by rw [hQ1]; exact dig_gt hY hU (by omega) hi (by omega)
   have hd : qh * a = (qh - 1) * a + a := by rw [<- Nat.succ_mul]; congr 1; omega
   have hinv : (qh - 1) * a + (rh + a) = U := by omega
   refine W.nx (WC.condT rfl (WC.sn (WC.block (WC.sr (W.run 1 rfl ?_)))))
   refine W.a (.subN (qh) (1) (qh - 1) rfl rfl rfl rfl (by omega) (by omega)) ?_
   refine W.run 1 rfl (W.nx (WC.sr (W.run 2 rfl ?_)))
   refine W.a (.addN (rh) (a) (rh + a) rfl rfl rfl rfl (by omega)) ?_
   refine W.run 1 rfl (W.nx (WC.sr (W.run 2 rfl (W.nx ?_))))
   refine WC.cond rfl (fun c4 => ?_) (fun c4 => ?_)
   ·have hqe : qh - 1 = Q1 := Nat.le_antisymm (by rw [hQ1]; exact dig_brk hY (by omega) hb1 hinv (by omega) (by omega)) (by omega)
    refine WC.exit (E.blkX rfl (E.thenX (E.blkH ?_)))
    refine E.meet () (.cons rfl (.cons rfl (.cons rfl (.cons rfl (.cons rfl (.cons rfl (.cons rfl (.cons' rfl (int_eq (by rw [hqe])) (.nil _))))))))) ?_
    exact Ll
   refine WC.skip (E.blkN ?_)
   refine E.again (qh - 1, rh + a) (.cons rfl (.cons rfl (.cons rfl (.cons rfl (.cons rfl (.cons rfl (.cons rfl (.cons rfl (.cons rfl (.nil _)))))))))) ?_ ?_
   ·exact ⟨Ll, hinv, by omega, by omega, by omega⟩
   first | omega | (simp only []; omega)
  refine W.run 1 rfl ?_
  refine W.rdg (Any.rd (.move rfl) _) rfl rfl rfl (dF (by omega)) rfl rfl ?_
  refine W.rdg (Any.rd (.move rfl) _) rfl rfl rfl (dF (by omega)) rfl rfl ?_
  have hqb : qh * b < 18446744073709551616 := Nat.lt_of_le_of_lt (Nat.mul_le_mul (show qh <= 4294967295 by omega) (show b <= 4294967295 by omega)) (by decide)
  refine W.rdg (Any.rd (.mulN (qh) (b) (qh * b) rfl rfl rfl rfl (Nat.mod_eq_of_lt hqb)) _) rfl rfl rfl (dF (by omega)) rfl rfl ?_
  refine W.rdg (Any.rd (.move rfl) _) rfl rfl rfl (dF (by omega)) rfl rfl ?_
  refine W.rdg (Any.rd (.mulN (4294967296) (rh) (4294967296 * rh) rfl rfl rfl rfl (by omega)) _) rfl rfl rfl (dF (by omega)) rfl rfl ?_
  refine W.rdg (Any.rd (.move rfl) _) rfl rfl rfl (dF (by omega)) rfl rfl ?_
  refine W.rdg (Any.rd (.addN (4294967296 * rh) (e1) (4294967296 * rh + e1) rfl rfl rfl rfl (by omega)) _) rfl rfl rfl (dF (by omega)) rfl rfl ?_
  refine W.rdg (Any.rd (.gtr rfl rfl) _) rfl rfl rfl (dF (by omega)) rfl rfl ?_
  refine W.a (.pickF rfl (dF (by omega)) rfl) ?_
  refine W.nx ?_
  refine WC.cond rfl (fun c3 => ?_) (fun c3 => ?_)
  ·have hgt : Q1 < qh := by rw [hQ1]; exact dig_gt hY hU (by omega) hi (by omega)
   have hd : qh * a = (qh - 1) * a + a := by rw [<- Nat.succ_mul]; congr 1; omega
   have hinv : (qh - 1) * a + (rh + a) = U := by omega
   refine WC.sn (WC.block (WC.sr (W.run 1 rfl ?_)))
   refine W.a (.subN (qh) (1) (qh - 1) rfl rfl rfl rfl (by omega) (by omega)) ?_
   refine W.run 1 rfl (W.nx (WC.sr (W.run 2 rfl ?_)))
   refine W.a (.addN (rh) (a) (rh + a) rfl rfl rfl rfl (by omega)) ?_
   refine W.run 1 rfl (W.nx (WC.sr (W.run 2 rfl (W.nx ?_))))
   refine WC.cond rfl (fun c4 => ?_) (fun c4 => ?_)
   ·have hqe : qh - 1 = Q1 := Nat.le_antisymm (by rw [hQ1]; exact dig_brk hY (by omega) hb1 hinv (by omega) (by omega)) (by omega)
    refine WC.exit (E.blkX rfl (E.thenX (E.blkH ?_)))
    refine E.meet () (.cons rfl (.cons rfl (.cons rfl (.cons rfl (.cons rfl (.cons rfl (.cons rfl (.cons' rfl (int_eq (by rw [hqe])) (.nil _))))))))) ?_
    exact Ll
   refine WC.skip (E.blkN ?_)
   refine E.again (qh - 1, rh + a) (.cons rfl (.cons rfl (.cons rfl (.cons rfl (.cons rfl (.cons rfl (.cons rfl (.cons rfl (.cons rfl (.nil _)))))))))) ?_ ?_
   ·exact ⟨Ll, hinv, by omega, by omega, by omega⟩
   first | omega | (simp only []; omega)
  have hqe : qh = Q1 := Nat.le_antisymm (by rw [hQ1]; exact dig_le hY (by omega) hi (by omega)) hq
  refine WC.exit (E.thenX (E.thenX (E.blkH ?_)))
  refine E.meet () (.cons rfl (.cons rfl (.cons rfl (.cons rfl (.cons rfl (.cons rfl (.cons rfl (.cons' rfl (int_eq (by rw [hqe])) (.nil _))))))))) ?_
  exact Ll
 rintro ⟨⟩ wc15 Lc15
 refine WC.sr (W.run 1 rfl ?_)
 refine W.a (.mulN (U) (4294967296) (U * 4294967296 % 18446744073709551616) rfl rfl rfl rfl (rfl)) ?_
 refine W.run 1 rfl ?_
 refine W.a (.addN (U * 4294967296 % 18446744073709551616) (e1) ((U * 4294967296 + e1) % 18446744073709551616) rfl rfl rfl rfl (by rw [Nat.mod_add_mod])) ?_
 refine W.run 2 rfl ?_
 refine W.a (.mulN (Q1) (Y) (Q1 * Y % 18446744073709551616) rfl rfl rfl rfl (rfl)) ?_
 refine W.a (.subN ((U * 4294967296 + e1) % 18446744073709551616) (Q1 * Y % 18446744073709551616) (R) rfl rfl rfl rfl (Nat.le_of_lt (Nat.mod_lt _ (by decide))) ((dig_rest Y _ _ hQ1 (by omega) (by omega)).trans hR.symm)) ?_
 refine W.run 1 rfl (W.nx (WC.sr (W.run 2 rfl ?_)))
 refine W.a (.quoN (R) (a) (R / a) rfl rfl rfl rfl (by omega) (by omega) (rfl)) ?_
 refine W.run 1 rfl (W.nx (WC.sr (W.run 3 rfl ?_)))
 refine W.a (.mulN (R / a) (a) (R / a * a) rfl rfl rfl rfl (Nat.mod_eq_of_lt (Nat.lt_of_le_of_lt (Nat.div_mul_le_self _ _) (by omega)))) ?_
 refine W.a (.subN (R) (R / a * a) (R % a) rfl rfl rfl rfl (Nat.le_trans (Nat.div_mul_le_self _ _) (by omega)) (sub_div R a (by omega))) ?_
 refine W.run 1 rfl (W.nx ?_)
 refine WC.cut (ι := Unit) (fun () => [(2, .int .u64 ((Y : Nat) : Int)), (8, .int .u64 (3 : Int)), (9, .int .u64 ((a : Nat) : Int)), (10, .int .u64 ((b : Nat) : Int)), (14, .int .u64 ((e0 : Nat) : Int)), (17, .int .u64 ((R : Nat) : Int)), (15, .int .u64 ((Q1 : Nat) : Int)), (18, .int .u64 ((Q2 : Nat) : Int))]) (fun () wc18 => Le w wc18) ?_ ?_
 ·refine WC.block ?_
  refine WC.loop (ι := Nat × Nat) (fun ⟨qh, rh⟩ => [(2, .int .u64 ((Y : Nat) : Int)), (8, .int .u64 (3 : Int)), (9, .int .u64 ((a : Nat) : Int)), (10, .int .u64 ((b : Nat) : Int)), (14, .int .u64 ((e0 : Nat) : Int)), (17, .int .u64 ((R : Nat) : Int)), (15, .int .u64 ((Q1 : Nat) : Int)), (18, .int .u64 ((qh : Nat) : Int)), (16, .int .u64 ((rh : Nat) : Int))]) (fun ⟨qh, rh⟩ wl => Le w wl /\ qh * a + rh = R /\ Q2 <= qh /\ rh < 4294967296 /\ qh <= 4294967297) (fun ⟨qh, rh⟩ => qh) (R / a, R % a) ?_ ?_ ?_
  ·exact .cons rfl (.cons rfl (.cons rfl (.cons rfl (.cons rfl (.cons rfl (.cons rfl (.cons rfl (.cons rfl (.nil _)))))))))
  ·exact ⟨Lc15, by rw [Nat.mul_comm]; exact Nat.div_add_mod _ _, by rw [hQ2]; exact dig_start hY (by omega) hRY (by omega), Nat.lt_of_lt_of_le (Nat.mod_lt _ (by omega)) (by omega), dig_first hY (by omega) (by omega) hRY⟩
  rintro ⟨qh, rh⟩ wl ⟨Ll, hi, hq, hr, hq2⟩
  refine WC.seq (WC.sr (W.run 2 rfl ?_))
  by_cases hb : 4294967296 <= qh
  ·refine W.run 1 rfl ?_
   refine W.skip rfl rfl rfl (dT (by omega)) rfl rfl ?_
   refine W.skip rfl rfl rfl (dT (by omega)) rfl rfl ?_
   refine W.skip rfl rfl rfl (dT (by omega)) rfl rfl ?_
   refine W.skip rfl rfl rfl (dT (by omega)) rfl rfl ?_
   refine W.skip rfl rfl rfl (dT (by omega)) rfl rfl ?_
   refine W.skip rfl rfl rfl (dT (by omega)) rfl rfl ?_
   refine W.skip rfl rfl rfl (dT (by omega)) rfl rfl ?_
   refine W.skip rfl rfl rfl (dT (by omega)) rfl rfl ?_
   refine W.a (.pickT rfl (dT (by omega)) rfl) ?_
   have hgt : Q2 < qh := by rw [hQ2]; exact dig_gt hY hRY (by omega) hi (by omega)
   have hd : qh * a = (qh - 1) * a + a := by rw [<- Nat.succ_mul]; congr 1; omega
   have hinv : (qh - 1) * a + (rh + a) = R := by omega
   refine W.nx (WC.condT rfl (WC.sn (WC.block (WC.sr (W.run 1 rfl ?_)))))
   refine W.a (.subN (qh) (1) (qh - 1) rfl rfl rfl rfl (by omega) (by omega)) ?_
   refine W.run 1 rfl (W.nx (WC.sr (W.run 2 rfl ?_)))
   refine W.a (.addN (rh) (a) (rh + a) rfl rfl rfl rfl (by omega)) ?_
   refine W.run 1 rfl (W.nx (WC.sr (W.run 2 rfl (W.nx ?_))))
   refine WC.cond rfl (fun c6 => ?_) (fun c6 => ?_)
   ·have hqe : qh - 1 = Q2 := Nat.le_antisymm (by rw [hQ2]; exact dig_brk hY (by omega) hb1 hinv (by omega) (by omega)) (by omega)
    refine WC.exit (E.blkX rfl (E.thenX (E.blkH ?_)))
    refine E.meet () (.cons rfl (.cons rfl (.cons rfl (.cons rfl (.cons rfl (.cons rfl (.cons rfl (.cons' rfl (int_eq (by rw [hqe])) (.nil _))))))))) ?_
    exact Ll
   refine WC.skip (E.blkN ?_)
   refine E.again (qh - 1, rh + a) (.cons rfl (.cons rfl (.cons rfl (.cons rfl (.cons rfl (.cons rfl (.cons rfl (.cons rfl (.cons rfl (.nil _)))))))))) ?_ ?_
   ·exact ⟨Ll, hinv, by omega, by omega, by omega⟩
   first | omega | (simp only []; omega)
  refine W.run 1 rfl ?_
  refine W.rdg (Any.rd (.move rfl) _) rfl rfl rfl (dF (by omega)) rfl rfl ?_
  refine W.rdg (Any.rd (.move rfl) _) rfl rfl rfl (dF (by omega)) rfl rfl ?_
  have hqb : qh * b < 18446744073709551616 := Nat.lt_of_le_of_lt (Nat.mul_le_mul (show qh <= 4294967295 by omega) (show b <= 4294967295 by omega)) (by decide)
  refine W.rdg (Any.rd (.mulN (qh) (b) (qh * b) rfl rfl rfl rfl (Nat.mod_eq_of_lt hqb)) _) rfl rfl rfl (dF (by omega)) rfl rfl ?_
  refine W.rdg (Any.rd (.move rfl) _) rfl rfl rfl (dF (by omega)) rfl rfl ?_
  refine W.rdg (Any.rd (.mulN (4294967296) (rh) (4294967296 * rh) rfl rfl rfl rfl (by omega)) _) rfl rfl rfl (dF (by omega)) rfl rfl ?_
  refine W.rdg (Any.rd (.move rfl) _) rfl rfl rfl (dF (by omega)) rfl rfl ?_
  refine W.rdg (Any.rd (.addN (4294967296 * rh) (e0) (4294967296 * rh + e0) rfl rfl rfl rfl (by omega)) _) rfl rfl rfl (dF (by omega)) rfl rfl ?_
  refine W.rdg (Any.rd (.gtr rfl rfl) _) rfl rfl rfl (dF (by omega)) rfl rfl ?_
  refine W.a (.pickF rfl (dF (by omega)) rfl) ?_
  refine W.nx ?_
  refine WC.cond rfl (fun c5 => ?_) (fun c5 => ?_)
  ·have hgt : Q2 < qh := by rw [hQ2]; exact dig_gt hY hRY (by omega) hi (by omega)
   have hd : qh * a = (qh - 1) * a + a := by rw [<- Nat.succ_mul]; congr 1; omega
   have hinv : (qh - 1) * a + (rh + a) = R := by omega
   refine WC.sn (WC.block (WC.sr (W.run 1 rfl ?_)))
   refine W.a (.subN (qh) (1) (qh - 1) rfl rfl rfl rfl (by omega) (by omega)) ?_
   refine W.run 1 rfl (W.nx (WC.sr (W.run 2 rfl ?_)))
   refine W.a (.addN (rh) (a) (rh + a) rfl rfl rfl rfl (by omega)) ?_
   refine W.run 1 rfl (W.nx (WC.sr (W.run 2 rfl (W.nx ?_))))
   refine WC.cond rfl (fun c6 => ?_) (fun c6 => ?_)
   ·have hqe : qh - 1 = Q2 := Nat.le_antisymm (by rw [hQ2]; exact dig_brk hY (by omega) hb1 hinv (by omega) (by omega)) (by omega)
    refine WC.exit (E.blkX rfl (E.thenX (E.blkH ?_)))
    refine E.meet () (.cons rfl (.cons rfl (.cons rfl (.cons rfl (.cons rfl (.cons rfl (.cons rfl (.cons' rfl (int_eq (by rw [hqe])) (.nil _))))))))) ?_
    exact Ll
   refine WC.skip (E.blkN ?_)
   refine E.again (qh - 1, rh + a) (.cons rfl (.cons rfl (.cons rfl (.cons rfl (.cons rfl (.cons rfl (.cons rfl (.cons rfl (.cons rfl (.nil _)))))))))) ?_ ?_
   ·exact ⟨Ll, hinv, by omega, by omega, by omega⟩
   first | omega | (simp only []; omega)
  have hqe : qh = Q2 := Nat.le_antisymm (by rw [hQ2]; exact dig_le hY (by omega) hi (by omega)) hq
  refine WC.exit (E.thenX (E.thenX (E.blkH ?_)))
  refine E.meet () (.cons rfl (.cons rfl (.cons rfl (.cons rfl (.cons rfl (.cons rfl (.cons rfl (.cons' rfl (int_eq (by rw [hqe])) (.nil _))))))))) ?_
  exact Ll
 rintro ⟨⟩ wc18 Lc18
 refine WC.sr (W.run 1 rfl ?_)
 refine W.a (.mulN (Q1) (4294967296) (Q1 * 4294967296 % 18446744073709551616) rfl rfl rfl rfl (rfl)) ?_
 refine W.run 1 rfl ?_
 refine W.a (.addN (Q1 * 4294967296 % 18446744073709551616) (Q2) ((Q1 * 4294967296 % 18446744073709551616 + Q2) % 18446744073709551616) rfl rfl rfl rfl (rfl)) ?_
 refine W.run 1 rfl ?_
 refine W.a (.mulN (R) (4294967296) (R * 4294967296 % 18446744073709551616) rfl rfl rfl rfl (rfl)) ?_
 refine W.run 1 rfl ?_
 refine W.a (.addN (R * 4294967296 % 18446744073709551616) (e0) ((R * 4294967296 + e0) % 18446744073709551616) rfl rfl rfl rfl (by rw [Nat.mod_add_mod])) ?_
 refine W.run 2 rfl ?_
 refine W.a (.mulN (Q2) (Y) (Q2 * Y % 18446744073709551616) rfl rfl rfl rfl (rfl)) ?_
 refine W.a (.subN ((R * 4294967296 + e0) % 18446744073709551616) (Q2 * Y % 18446744073709551616) ((R * 4294967296 + e0) % Y) rfl rfl rfl rfl (Nat.le_of_lt (Nat.mod_lt _ (by decide))) (dig_rest Y _ _ hQ2 (by omega) (by omega))) ?_
 refine W.run 1 rfl ?_
 refine W.a (.shrE ((R * 4294967296 + e0) % Y) (3) ((h * 18446744073709551616 + l) % y) rfl rfl rfl rfl (by decide) (hfin)) ?_
 refine W.run 2 rfl (W.nx (WC.ret ?_))
 refine E.ret2 rfl rfl rfl ?_
 exact ⟨_, rfl, Lc18⟩

theorem rem64_ok (h l y : Nat) (h1 : 1152921504606846976 <= y) (h2 : y < 4611686018427387904) (hl : l < 18446744073709551616) (w : World) : Calls prog 112 #[.int .u64 ((h : Nat) : Int), .int .u64 ((l : Nat) : Int), .int .u64 ((y : Nat) : Int)] w fun e w' => e = .returned (.int .u64 (((h * 18446744073709551616 + l) % y : Nat) : Int)) /\ Le w w' := by
 have hd : ∀ w, Calls prog 134 #[.int .u64 ((h % y : Nat) : Int), .int .u64 ((l : Nat) : Int), .int .u64 ((y : Nat) : Int)] w fun e w' => ∃ qq : Int, e = .returned (.tuple #[.int .u64 qq, .int .u64 (((h * 18446744073709551616 + l) % y : Nat) : Int)]) /\ Le w w' := fun w => by
  rw [show (h * 18446744073709551616 + l) % y = (h % y * 18446744073709551616 + l) % y by rw [Nat.add_mod (h % y * _), Nat.mul_mod (h % y), Nat.mod_mod, <- Nat.mul_mod, <- Nat.add_mod]]
  by_cases hs : y < 2305843009213693952
  ·exact div64_ok3 (h % y) l y (by omega) (by omega) (Nat.mod_lt _ (by omega)) hl w
  exact div64_ok2 (h % y) l y (by omega) (by omega) (Nat.mod_lt _ (by omega)) hl w
 refine enter func112 rfl rfl ?_
 have L0 := Le.refl w
 refine WC.sr (W.run 1 rfl (W.nx (WC.sr (W.run 2 rfl ?_))))
 refine W.a (.remN (h) (y) (h % y) rfl rfl rfl rfl (by omega) (rfl)) ?_
 refine W.run 2 rfl ?_
 refine W.cl go134 rfl rfl (hd w) ?_
 rintro _ w1_5 ⟨qq, rfl, h1_5⟩
 have L1_5 := L0.trans h1_5
 refine W.run 1 rfl ?_
 refine W.a (.extract rfl rfl) ?_
 refine W.a (.extract rfl rfl) ?_
 refine W.run 2 rfl (W.nx (WC.sr (W.run 2 rfl (W.nx (WC.ret ?_)))))
 refine E.ret1 rfl rfl ?_
 exact ⟨rfl, L1_5⟩
end Go.Proofs.YtgpaekbdbpkogaaGreat

namespace Go.Proofs.YtgpaekbdbpkogaaGreat
open Tryz
open Go Go.Sx Go.Num
set_option maxRecDepth 20000
theorem times_ok (a b : Nat) (ha : a < 18446744073709551616) (hb : b < 18446744073709551616) (w : World) : Calls prog 95 #[.int .u64 ((a : Nat) : Int), .int .u64 ((b : Nat) : Int)] w fun e w' => e = .returned (.int .u64 ((a * b % M : Nat) : Int)) /\ Le w w' := by
 refine enter func95 rfl rfl ?_
 have L0 := Le.refl w
 refine WC.sr (W.run 1 rfl (W.nx (WC.sr (W.run 2 rfl ?_))))
 refine W.cl go111 rfl rfl (mul64_ok a b ha hb w) ?_
 rintro _ w1_2 ⟨rfl, h1_2⟩
 have L1_2 := L0.trans h1_2
 refine W.run 1 rfl ?_
 refine W.a (.extract rfl rfl) ?_
 refine W.a (.extract rfl rfl) ?_
 refine W.run 2 rfl (W.nx (WC.sr (W.run 2 rfl ?_)))
 refine W.cl go112 rfl rfl (rem64_ok (a * b / 18446744073709551616) (a * b % 18446744073709551616) 4611686018427377339 (by decide) (by decide) (Nat.mod_lt _ (by decide)) w1_2) ?_
 rintro _ w2_2 ⟨rfl, h2_2⟩
 have L2_2 := L1_2.trans h2_2
 refine W.run 1 rfl (W.nx (WC.ret ?_))
 refine E.ret1 rfl rfl ?_
 exact ⟨by rw [Nat.div_add_mod']; rfl, L2_2⟩



theorem power_ok (a n : Nat) (ha : a < 18446744073709551616) (hn : n < 18446744073709551616) (w : World) : Calls prog 69 #[.int .u64 ((a : Nat) : Int), .int .u64 ((n : Nat) : Int)] w fun e w' => e = .returned (.int .u64 ((pw a n : Nat) : Int)) /\ Le w w' := by
 refine enter func69 rfl rfl ?_
 have L0 := Le.refl w
 refine WC.sr (W.run 1 rfl (W.nx (WC.sr (W.run 1 rfl (W.nx (WC.seq (WC.block ?_)))))))
 refine WC.loop (ι := Nat × Nat × Nat) (fun ⟨b, m, out⟩ => [(0, .int .u64 ((b : Nat) : Int)), (1, .int .u64 ((m : Nat) : Int)), (5, .int .u64 ((out : Nat) : Int))]) (fun ⟨b, m, out⟩ wl => Le w wl /\ b < 18446744073709551616 /\ m < 18446744073709551616 /\ out < M /\ out * b ^ m % M = pw a n) (fun ⟨b, m, out⟩ => m) (a, n, 1) ?_ ?_ ?_
 ·exact .cons rfl (.cons rfl (.cons rfl (.nil _)))
 ·exact ⟨L0, ha, hn, M_one, pw_start a n hn⟩
 rintro ⟨b, m, out⟩ wl ⟨Ll, hb, hm, ho, hi⟩
 refine WC.seq (WC.sr (W.run 2 rfl (W.nx ?_)))
 refine WC.cond rfl (fun c0 => ?_) (fun c0 => ?_)
 ·have hbb : b * b % M < 18446744073709551616 := Nat.lt_trans (Nat.mod_lt _ (by decide)) (by decide)
  have ho2 : out < 18446744073709551616 := Nat.lt_trans ho (by decide)
  refine WC.sn (WC.seq (WC.block (WC.seq (WC.sr (W.run 1 rfl ?_)))))
  refine W.a (.andE (m) (1) (m % 2) rfl rfl rfl rfl (by omega) (by omega) (mask1 _)) ?_
  refine W.run 1 rfl (W.nx ?_)
  refine WC.cond rfl (fun c1 => ?_) (fun c1 => ?_)
  ·refine WC.region (W.run 2 rfl ?_)
   refine W.cl go95 rfl rfl (times_ok out b ho2 hb wl) ?_
   rintro _ w5_2 ⟨rfl, h5_2⟩
   have L5_2 := Ll.trans h5_2
   refine W.run 1 rfl (W.nx (WC.region (W.run 2 rfl ?_)))
   refine W.cl go95 rfl rfl (times_ok b b hb hb w5_2) ?_
   rintro _ w6_2 ⟨rfl, h6_2⟩
   have L6_2 := L5_2.trans h6_2
   refine W.run 1 rfl (W.nil (E.blkN (E.thenN (WC.region (W.run 1 rfl ?_)))))
   refine W.a (.shrE (m) (1) (m / 2) rfl rfl rfl rfl (by decide) (rfl)) ?_
   refine W.run 1 rfl (W.nil ?_)
   refine E.again (b * b % M, m / 2, out * b % M) (.cons rfl (.cons rfl (.cons rfl (.nil _)))) ?_ ?_
   ·exact ⟨L6_2, hbb, by omega, Nat.mod_lt _ (by decide), by rw [step1 b m out (by omega)]; exact hi⟩
   first | omega | (simp only []; omega)
  refine WC.sn (WC.region (W.run 2 rfl ?_))
  refine W.cl go95 rfl rfl (times_ok b b hb hb wl) ?_
  rintro _ w6_2 ⟨rfl, h6_2⟩
  have L6_2 := Ll.trans h6_2
  refine W.run 1 rfl (W.nil (E.blkN (E.thenN (WC.region (W.run 1 rfl ?_)))))
  refine W.a (.shrE (m) (1) (m / 2) rfl rfl rfl rfl (by decide) (rfl)) ?_
  refine W.run 1 rfl (W.nil ?_)
  refine E.again (b * b % M, m / 2, out) (.cons rfl (.cons rfl (.cons rfl (.nil _)))) ?_ ?_
  ·exact ⟨L6_2, hbb, by omega, ho, by rw [step0 b m out (by omega)]; exact hi⟩
  first | omega | (simp only []; omega)
 have hm0 : m = 0 := by omega
 subst hm0
 rw [pw_end b out ho] at hi
 refine WC.exit (E.thenX (E.thenX (E.blkH (E.thenN (WC.sr (W.run 2 rfl (W.nx (WC.ret ?_))))))))
 refine E.ret1 rfl rfl ?_
 exact ⟨by rw [hi], Ll⟩

theorem dec1 (x : Nat) : decide ((x : Int) = 1) = decide (x = 1) := decide_eq_decide.2 (by omega)

theorem pright_ok (p : Nat) (hp : p < 18446744073709551616) (w : World) : Calls prog 45 #[.int .u64 ((p : Nat) : Int)] w fun e w' => e = .returned (.bool (right p)) /\ Le w w' := by
 refine enter func45 rfl rfl ?_
 have L0 := Le.refl w
 refine WC.sr (W.run 1 rfl (W.nx (WC.sr (W.run 1 rfl ?_))))
 by_cases h0 : 0 < p
 ·refine W.a (.dec (.gtr rfl rfl) (dT (by omega))) ?_
  refine W.run 2 rfl ?_
  by_cases h1 : p < 4611686018427377339
  ·refine W.g (Any.rd (.dec (.lss rfl rfl) (dT (by omega))) _) ?_
   refine W.run 3 rfl ?_
   refine W.efg rfl rfl rfl (rfl) rfl rfl ?_
   refine Ef.call go69 rfl rfl (power_ok p 2305843009213688669 hp (by decide) w) ?_
   rintro _ w1_8 ⟨rfl, h1_8⟩
   refine ⟨_, rfl, ?_⟩
   have L1_8 := L0.trans h1_8
   refine W.run 3 rfl (W.nx (WC.ret ?_))
   refine E.ret1 rfl rfl ?_
   exact ⟨by rw [right, decide_eq_true h0, dT (show p < M from h1), Bool.true_and, Bool.true_and, <- dec1]; rfl, L1_8⟩
  refine W.g (Any.rd (.dec (.lss rfl rfl) (dF (by omega))) _) ?_
  refine W.run 7 rfl (W.nx (WC.ret ?_))
  refine E.ret1 rfl rfl ?_
  exact ⟨by rw [right, dF (show ¬ p < M from h1), Bool.and_false, Bool.false_and], L0⟩
 refine W.a (.dec (.gtr rfl rfl) (dF (by omega))) ?_
 refine W.run 10 rfl (W.nx (WC.ret ?_))
 refine E.ret1 rfl rfl ?_
 exact ⟨by rw [right, decide_eq_false h0, Bool.false_and, Bool.false_and], L0⟩

theorem taken_ok (p : Nat) (hp : p < 18446744073709551616) (w : World) : Calls prog 70 #[.int .u64 ((p : Nat) : Int)] w fun e w' => e = .returned (.int .u64 ((taken p : Nat) : Int)) /\ Le w w' := by
 refine enter func70 rfl rfl ?_
 have L0 := Le.refl w
 refine WC.sr (W.run 1 rfl (W.nx (WC.seq (WC.sr (W.run 1 rfl ?_)))))
 refine W.cl go45 rfl rfl (pright_ok p hp w) ?_
 rintro _ w1_1 ⟨rfl, h1_1⟩
 have L1_1 := L0.trans h1_1
 refine W.nx ?_
 refine WC.condB rfl (fun c0 => ?_) (fun c0 => ?_)
 ·refine WC.sr (W.run 2 rfl (W.nx (WC.ret (E.thenR ?_))))
  refine E.ret1 rfl rfl ?_
  exact ⟨by rw [taken, if_pos c0], L1_1⟩
 refine WC.sn (WC.sr (W.run 1 rfl (W.nx (WC.ret ?_))))
 refine E.ret1 rfl rfl ?_
 exact ⟨by rw [taken, if_neg (by rw [c0]; simp)]; rfl, L1_1⟩

theorem taken_lt (p : Nat) : taken p < 18446744073709551616 := Nat.lt_trans ((right_iff _).1 (right_taken p)).2.1 (by decide)

theorem scale_ok (p k : Nat) (hp : p < 18446744073709551616) (w : World) : Calls prog 38 #[.int .u64 ((p : Nat) : Int), .int .u64 ((k : Nat) : Int)] w fun e w' => e = .returned (.int .u64 ((scale p k : Nat) : Int)) /\ Le w w' := by
 refine enter func38 rfl rfl ?_
 have L0 := Le.refl w
 refine WC.sr (W.run 1 rfl (W.nx (WC.sr (W.run 1 rfl ?_))))
 refine W.cl go70 rfl rfl (taken_ok p hp w) ?_
 rintro _ w1_1 ⟨rfl, h1_1⟩
 have L1_1 := L0.trans h1_1
 refine W.run 1 rfl ?_
 refine W.a (.remN (k) (2305843009213688669) (k % 2305843009213688669) rfl rfl rfl rfl (by decide) (rfl)) ?_
 refine W.cl go69 rfl rfl (power_ok (taken p) (k % 2305843009213688669) (taken_lt p) (by omega) w1_1) ?_
 rintro _ w1_4 ⟨rfl, h1_4⟩
 have L1_4 := L1_1.trans h1_4
 refine W.run 1 rfl (W.nx (WC.ret ?_))
 refine E.ret1 rfl rfl ?_
 exact ⟨rfl, L1_4⟩

theorem base_ok (k : Nat) (w : World) : Calls prog 8 #[.int .u64 ((k : Nat) : Int)] w fun e w' => e = .returned (.int .u64 ((base k : Nat) : Int)) /\ Le w w' := by
 refine enter func8 rfl rfl ?_
 have L0 := Le.refl w
 refine WC.sr (W.run 1 rfl (W.nx (WC.sr (W.run 1 rfl ?_))))
 refine W.cl go38 rfl rfl (scale_ok 4 k (by decide) w) ?_
 rintro _ w1_1 ⟨rfl, h1_1⟩
 have L1_1 := L0.trans h1_1
 refine W.run 1 rfl (W.nx (WC.ret ?_))
 refine E.ret1 rfl rfl ?_
 exact ⟨rfl, L1_1⟩














end Go.Proofs.YtgpaekbdbpkogaaGreat

namespace Go.Proofs.YtgpaekbdbpkogaaGreat
open Tryz
open Go Go.Sx Go.Num Go.Gsp Go.Lsp
set_option maxRecDepth 20000
def seatV (s : Seat) : List Value := [.int .i64 s.ch, .int .i64 s.p0, .int .i64 s.p1, .int .i64 s.h0, .int .i64 s.h1]
theorem seatV_row : RowF seatV 5 := ⟨fun _ => rfl, fun x v hv => by simp [seatV] at hv; rcases hv with rfl | rfl | rfl | rfl | rfl <;> rfl, by decide⟩
def holdV (h : Hold) : List Value := [.int .i64 h.am, .int .u64 ((h.pt : Nat) : Int)]
theorem holdV_row : RowF holdV 2 := ⟨fun _ => rfl, fun x v hv => by simp [holdV] at hv; rcases hv with rfl | rfl <;> rfl, by decide⟩
def placeV (k : Spot) : List Value := [.int .i64 k.ch, .int .i64 k.side, .int .i64 k.id]
theorem placeV_row : RowF placeV 3 := ⟨fun _ => rfl, fun x v hv => by simp [placeV] at hv; rcases hv with rfl | rfl | rfl <;> rfl, by decide⟩
def legV (g : Leg) : List Value := [.int .i64 g.ch, .int .i64 g.side, .int .i64 g.am]
theorem legV_row : RowF legV 3 := ⟨fun _ => rfl, fun x v hv => by simp [legV] at hv; rcases hv with rfl | rfl | rfl <;> rfl, by decide⟩
theorem seatP_at (s : Seat) {j : Nat} (h : j < 2) : (seatV s).toArray[1 + j]? = some (.int .i64 (s.p j)) := by
  have : j = 0 \/ j = 1 := by omega
  rcases this with rfl | rfl <;> rfl
theorem seatH_at (s : Seat) {j : Nat} (h : j < 2) : (seatV s).toArray[3 + j]? = some (.int .i64 (s.h j)) := by
  have : j = 0 \/ j = 1 := by omega
  rcases this with rfl | rfl <;> rfl
theorem seatP_ix (s : Seat) {j : Nat} (h : j < 2) : #[Value.int .i64 s.p0, .int .i64 s.p1][j]? = some (.int .i64 (s.p j)) := by
  have : j = 0 \/ j = 1 := by omega
  rcases this with rfl | rfl <;> rfl
theorem seatH_set (s : Seat) (v : Int) {j : Nat} (h : j < 2) : (seatV s).toArray.setIfInBounds (3 + j) (.int .i64 v) = (seatV (s.setH j v)).toArray := by
  have : j = 0 \/ j = 1 := by omega
  rcases this with rfl | rfl <;> rfl
def ikf (x : Int) : Value := .int .i64 x
def plf (k : Spot) : Value := .agg (placeV k).toArray
def seatf (s : Seat) : Value := .agg (seatV s).toArray
def holdf (h : Hold) : Value := .agg (holdV h).toArray
theorem kint : KeyG prog 3 ikf := KeyG.int underlying3
theorem eqv_placeV {d : Nat} (a b : Spot) : Eqv prog (d + 2) 114 (.agg (placeV a).toArray) (.agg (placeV b).toArray) (decide (a = b)) := by
  have h := Eqv.ints (P := prog) (d := d) (t := 114) (placeV a) (placeV b) [(.i64, 0), (.i64, 1), (.i64, 2)] (by kernel_rfl) (by kernel_rfl) (by
    rw [show (prog.fieldsOf 114) = _ from (by unfold Program.fieldsOf; rw [underlying114])]
    exact ⟨by decide, rfl, underlying3, ⟨_, _, rfl, rfl⟩, by decide, rfl, underlying3, ⟨_, _, rfl, rfl⟩, by decide, rfl, underlying3, ⟨_, _, rfl, rfl⟩, trivial⟩)
  have e : eqAll (placeV a) (placeV b) [(.i64, 0), (.i64, 1), (.i64, 2)] = decide (a = b) := by
    obtain ⟨a0, a1, a2⟩ := a
    obtain ⟨b0, b1, b2⟩ := b
    simp only [eqAll, placeV, List.getElem?_cons_zero, List.getElem?_cons_succ]
    rw [Bool.eq_iff_iff]
    simp only [Bool.and_eq_true, decide_eq_true_eq, Bool.and_true, Spot.mk.injEq]
  rw [e] at h
  exact h
theorem check_place (b : Bool) (k : Spot) (w : World) : ∀ m : Nat, (Instr.checkKey b (m + 2) 114 (plf k)).run prog w = .ok () w := by
  intro m
  have hi : ∀ (v : Int) (w : World), (Instr.checkKey b (m + 1) 3 (.int .i64 v)).run prog w = .ok () w := fun v w => by unfold Instr.checkKey; simp [run_underlying underlying3]
  have p0 : ∀ w : World, (part 3 (placeV k).toArray 0).run prog w = .ok (.int .i64 k.ch) w := run_part1 na3 rfl
  have p1 : ∀ w : World, (part 3 (placeV k).toArray 1).run prog w = .ok (.int .i64 k.side) w := run_part1 na3 rfl
  have p2 : ∀ w : World, (part 3 (placeV k).toArray 2).run prog w = .ok (.int .i64 k.id) w := run_part1 na3 rfl
  unfold Instr.checkKey
  simp only [Sem.run_bind, run_underlying underlying114, Result.andThen_ok, plf]
  simp [p0, p1, p2, hi]
theorem kplace : KeyG prog 114 plf := KeyG.struct underlying114 (fun b k w => check_place b k w 9998) (fun k => ⟨_, rfl⟩) (fun a b => eqv_placeV (d := 9998) a b)
theorem sumF_uns {κ β : Type} [DecidableEq κ] {f : κ -> β -> Int} {seen : Array Nat} : ∀ {l : List (Nat × κ × β)}, (∀ x ∈ l, 0 <= f x.2.1 x.2.2) -> 0 <= sumF f (unsG l seen) /\ sumF f (unsG l seen) <= sumF f l
  | [], _ => by simp [unsG, sumF]
  | x :: l, h => by
    have h1 := sumF_uns (f := f) (seen := seen) (l := l) (fun y hy => h y (List.mem_cons_of_mem _ hy))
    have h2 := h x List.mem_cons_self
    unfold unsG at *
    rw [List.filter_cons]
    split
    · rw [sumF_cons, sumF_cons]; omega
    · rw [sumF_cons]; omega
theorem heldF_nn {ch side : Int} {lh : HM} (hb : ∀ x ∈ lh, 0 <= x.2.2.am) : ∀ x ∈ lh, 0 <= heldF ch side x.2.1 x.2.2 := by
  intro x hx
  unfold heldF
  split
  · exact hb x hx
  · exact Int.le_refl _
structure LedL (w : World) (gp gs gh : Nat) (A : Option Addr) (c cs ck : Nat) (own : List Int) (ls : SM) (lh : HM) (lost : Int) : Prop where
  hp : Blk w gp 100 #[.slice A own.length c, .map (some gs), .map (some gh), .int .i64 lost]
  hO : OVec w 0 3 iv 1 A own.length c own
  hS : MapG w ikf seatf gs ls cs
  hH : MapG w plf holdf gh lh ck
  ps : gp ≠ gs
  ph : gp ≠ gh
  sh : gs ≠ gh
  op : rowOf A c ≠ some gp
  os : rowOf A c ≠ some gs
  oh : rowOf A c ≠ some gh
def LF (gp gs gh : Nat) (A : Option Addr) (c : Nat) (k : Nat) : Prop := k = gp \/ k = gs \/ k = gh \/ rowOf A c = some k
section
variable {w w' : World} {gp gs gh c cs ck : Nat} {A : Option Addr} {own : List Int} {ls : SM} {lh : HM} {lost : Int}
theorem LedL.chP {F' : Nat -> Prop} (h : LedL w gp gs gh A c cs ck own ls lh lost) (hc : ChP w w' F') (hne : ∀ k, LF gp gs gh A c k -> ¬ F' k) : LedL w' gp gs gh A c cs ck own ls lh lost :=
  ⟨h.hp.chP hc (hne _ (.inl rfl)), h.hO.chP hc (fun k hk => hne _ (.inr (.inr (.inr hk)))), h.hS.chP hc (hne _ (.inr (.inl rfl))), h.hH.chP hc (hne _ (.inr (.inr (.inl rfl)))), h.ps, h.ph, h.sh, h.op, h.os, h.oh⟩
theorem LedL.le (h : LedL w gp gs gh A c cs ck own ls lh lost) (hl : Le w w') : LedL w' gp gs gh A c cs ck own ls lh lost := h.chP (hl.chP (fun _ => False)) (fun _ _ hf => hf)
theorem LedL.lt (h : LedL w gp gs gh A c cs ck own ls lh lost) {k : Nat} (hk : LF gp gs gh A c k) : k < w.heap.size := by
  rcases hk with rfl | rfl | rfl | hk
  · exact h.hp.lt
  · exact h.hS.lt
  · exact h.hH.lt
  · exact (h.hO.row hk).2
end
theorem coin_ok (n : Int) (w : World) : Calls prog 36 #[.int .i64 (n)] w fun r w' => r = .returned (.bool (coinL n)) /\ Le w w' := by
 refine enter func36 rfl rfl ?_
 have L0 := Le.refl w
 refine WC.sr (W.run 1 rfl (W.nx (WC.sr (W.run 2 rfl ?_))))
 by_cases q1_2 : 0 <= n
 ·refine W.dt q1_2 rfl rfl (W.run 4 rfl (W.nx (WC.ret ?_)))
  refine E.retG1 rfl rfl ?_
  exact ⟨rB (by simp [coinL, q1_2]), L0⟩
 refine W.df q1_2 rfl rfl (W.run 4 rfl (W.nx (WC.ret ?_)))
 refine E.retG1 rfl rfl ?_
 exact ⟨rB (by simp [coinL, q1_2]), L0⟩

theorem lost_ok {gp gs gh c cs ck : Nat} {A : Option Addr} {own : List Int} {ls : SM} {lh : HM} {lost : Int} (w : World) (hL : LedL w gp gs gh A c cs ck own ls lh lost) : Calls prog 28 #[.pointer (some ⟨gp, 0, none⟩)] w fun r w' => r = .returned (.int .i64 lost) /\ Le w w' := by
 refine enter func28 rfl rfl ?_
 have L0 := Le.refl w
 refine WC.sr (W.run 1 rfl (W.nx (WC.sr (W.run 1 rfl ?_))))
 refine W.a (.nilCheck rfl) ?_
 refine W.a (.field0 fa100_3 rfl) ?_
 refine W.r (.loadB (v := .int .i64 (lost)) na3 rfl (hL.hp.le L0) rfl) ?_
 refine W.run 1 rfl (W.nx (WC.ret ?_))
 refine E.retG1 rfl rfl ?_
 exact ⟨rfl, L0⟩

theorem lown_ok {gp gs gh c cs ck : Nat} {A : Option Addr} {own : List Int} {ls : SM} {lh : HM} {lost : Int} (party : Int) (w : World) (hL : LedL w gp gs gh A c cs ck own ls lh lost) : Calls prog 21 #[.pointer (some ⟨gp, 0, none⟩), .int .i64 (party)] w fun r w' => r = .returned (.int .i64 (ownL own party)) /\ Le w w' := by
 refine enter func21 rfl rfl ?_
 have L0 := Le.refl w
 refine WC.sr (W.run 1 rfl (W.nx (WC.seq (WC.sr (W.run 2 rfl ?_)))))
 by_cases q1_2 : party < 0
 ·refine W.dt q1_2 rfl rfl (W.run 8 rfl (W.nx (WC.condT rfl (WC.sr (W.run 1 rfl (W.nx (WC.ret (E.thenR ?_))))))))
  refine E.retG1 rfl rfl ?_
  exact ⟨congrArg (fun b => Ending.returned (Value.int .i64 b)) (by unfold ownL; first | (rw [if_pos (by omega)]) | (rw [if_neg (by omega)])), L0⟩
 refine W.df q1_2 rfl rfl (W.run 2 rfl ?_)
 refine W.g (Any.rd (.nilCheck rfl) _) ?_
 refine W.g (Any.rd (.field0 fa100_0 rfl) _) ?_
 refine W.g (.loadB (v := .slice A own.length c) na56 rfl (hL.hp.le L0) rfl) ?_
 refine W.g (.len underlying56 rfl) ?_
 refine W.run 2 rfl (W.nx ?_)
 by_cases c0 : ((own.length : Nat) : Int) <= party
 ·refine WC.condY rfl (decide_eq_true c0) ?_
  refine WC.sr (W.run 1 rfl (W.nx (WC.ret (E.thenR ?_))))
  refine E.retG1 rfl rfl ?_
  exact ⟨congrArg (fun b => Ending.returned (Value.int .i64 b)) (by unfold ownL; first | (rw [if_pos (by omega)]) | (rw [if_neg (by omega)])), L0⟩
 refine WC.condN rfl (decide_eq_false c0) ?_
 refine WC.sn (WC.sr (W.run 1 rfl ?_))
 refine W.a (.nilCheck rfl) ?_
 refine W.a (.field0 fa100_0 rfl) ?_
 refine W.r (.loadB (v := .slice A own.length c) na56 rfl (hL.hp.le L0) rfl) ?_
 refine W.run 1 rfl ?_
 refine W.a (.idxS ((party).toNat) underlying56 sz3 rfl rfl (hL.hO.vec.isSome iv_row (by omega)) (by omega) (by omega)) ?_
 refine W.r (.vone (v := .int .i64 ((own.getD ((party).toNat) 0))) na3 rfl (hL.hO.vec.le L0) iv_row (getS own 0 (by omega)) rfl) ?_
 refine W.run 1 rfl (W.nx (WC.ret ?_))
 refine E.retG1 rfl rfl ?_
 exact ⟨congrArg (fun b => Ending.returned (Value.int .i64 b)) (by unfold ownL; first | (rw [if_pos (by omega)]) | (rw [if_neg (by omega)])), L0⟩

theorem lseat_ok {gp gs gh c cs ck : Nat} {A : Option Addr} {own : List Int} {ls : SM} {lh : HM} {lost : Int} (ch : Int) (w : World) (hL : LedL w gp gs gh A c cs ck own ls lh lost) : Calls prog 16 #[.pointer (some ⟨gp, 0, none⟩), .int .i64 (ch)] w fun r w' => r = .returned (.tuple #[.agg (seatV ((getG ch ls).getD noSeat)).toArray, .bool (getG ch ls).isSome]) /\ Le w w' := by
 refine enter func16 rfl rfl ?_
 have L0 := Le.refl w
 refine WC.sr (W.ef rfl rfl rfl ?_)
 refine Ef.allocA z60 ?_
 intro g0_0 w0_0 hg0_0 b0_0 h0_0
 have L1 := L0.trans h0_0
 have b0_0 : Blk w0_0 g0_0 60 (seatV noSeat).toArray := b0_0
 refine W.run 1 rfl (W.nx (WC.sr (W.run 1 rfl ?_)))
 refine W.a (.nilCheck rfl) ?_
 refine W.a (.field0 fa100_1 rfl) ?_
 refine W.r (.loadB (v := .map (some gs)) na97 rfl (hL.hp.le L1) rfl) ?_
 refine W.run 1 rfl ?_
 rcases optG (getG ch ls) with hk1_5 | ⟨vhk1_5, hk1_5⟩
 ·refine W.r (.as (.lookup2 (key := ch) underlying97 kint z60 rfl rfl (hL.hS.le L1)) (by rw [hk1_5] <;> rfl)) ?_
  refine W.run 1 rfl ?_
  refine W.a (.extract (v := .agg (seatV noSeat).toArray) rfl rfl) ?_
  refine W.run 1 rfl (W.ef rfl rfl rfl ?_)
  refine Ef.allocA z60 ?_
  intro g1_9 w1_9 hg1_9 b1_9 h1_9
  have L2 := L1.trans h1_9
  have b1_9 : Blk w1_9 g1_9 60 (seatV noSeat).toArray := b1_9
  refine W.ef0 rfl rfl ?_
  refine Ef.storeAll sz60 (by rfl) rfl rfl b1_9 (by simp only [List.size_toArray, seatV_row.len]) (seatV_row.one noSeat) ?_
  intro w1_10 b1_10 h1_10
  have b1_10 : Blk w1_10 g1_9 60 (seatV noSeat).toArray := b1_10
  have L3 := L2.tb h1_10 L1 hg1_9
  refine W.run 1 rfl (W.nx (WC.sr ?_))
  refine W.r (.loadAll ag60 (by rfl) rfl b1_10) ?_
  refine W.run 1 rfl ?_
  have f4 := ((b0_0.le h1_9).ch h1_10 (fun h => (show g1_9 ≠ g0_0 from by have := b0_0.lt; omega) (oI h)))
  refine W.ef0 rfl rfl ?_
  refine Ef.storeAll sz60 (by rfl) rfl rfl f4 (by simp only [List.size_toArray, seatV_row.len]) (seatV_row.one noSeat) ?_
  intro w2_2 b2_2 h2_2
  have b2_2 : Blk w2_2 g0_0 60 (seatV noSeat).toArray := b2_2
  have L5 := L3.tb h2_2 L0 hg0_0
  refine W.run 1 rfl (W.nx (WC.ret ?_))
  refine E.retG2 rfl (resA rfl b2_2 ag60 (by rfl)) rfl ?_
  exact ⟨by rw [hk1_5]; rfl, L5⟩
 refine W.r (.as (.lookup2 (key := ch) underlying97 kint z60 rfl rfl (hL.hS.le L1)) (by rw [hk1_5] <;> rfl)) ?_
 refine W.run 1 rfl ?_
 refine W.a (.extract (v := .agg (seatV vhk1_5).toArray) rfl rfl) ?_
 refine W.run 1 rfl (W.ef rfl rfl rfl ?_)
 refine Ef.allocA z60 ?_
 intro g1_9_1 w1_9_1 hg1_9_1 b1_9_1 h1_9_1
 have L6 := L1.trans h1_9_1
 have b1_9_1 : Blk w1_9_1 g1_9_1 60 (seatV noSeat).toArray := b1_9_1
 refine W.ef0 rfl rfl ?_
 refine Ef.storeAll sz60 (by rfl) rfl rfl b1_9_1 (by simp only [List.size_toArray, seatV_row.len]) (seatV_row.one vhk1_5) ?_
 intro w1_10_1 b1_10_1 h1_10_1
 have b1_10_1 : Blk w1_10_1 g1_9_1 60 (seatV vhk1_5).toArray := b1_10_1
 have L7 := L6.tb h1_10_1 L1 hg1_9_1
 refine W.run 1 rfl (W.nx (WC.sr ?_))
 refine W.r (.loadAll ag60 (by rfl) rfl b1_10_1) ?_
 refine W.run 1 rfl ?_
 have f8 := ((b0_0.le h1_9_1).ch h1_10_1 (fun h => (show g1_9_1 ≠ g0_0 from by have := b0_0.lt; omega) (oI h)))
 refine W.ef0 rfl rfl ?_
 refine Ef.storeAll sz60 (by rfl) rfl rfl f8 (by simp only [List.size_toArray, seatV_row.len]) (seatV_row.one vhk1_5) ?_
 intro w2_2_1 b2_2_1 h2_2_1
 have b2_2_1 : Blk w2_2_1 g0_0 60 (seatV vhk1_5).toArray := b2_2_1
 have L9 := L7.tb h2_2_1 L0 hg0_0
 refine W.run 1 rfl (W.nx (WC.ret ?_))
 refine E.retG2 rfl (resA rfl b2_2_1 ag60 (by rfl)) rfl ?_
 exact ⟨by rw [hk1_5]; rfl, L9⟩

theorem lheld_ok {gp gs gh c cs ck : Nat} {A : Option Addr} {own : List Int} {ls : SM} {lh : HM} {lost : Int} (ch side : Int) (w : World) (hL : LedL w gp gs gh A c cs ck own ls lh lost) (hb : ∀ x ∈ lh, 0 <= x.2.2.am) (ht : heldL lh ch side <= 4611686018427387904) : Calls prog 22 #[.pointer (some ⟨gp, 0, none⟩), .int .i64 (ch), .int .i64 (side)] w fun r w' => r = .returned (.int .i64 (heldL lh ch side)) /\ Le w w' := by
 refine enter func22 rfl rfl ?_
 have L0 := Le.refl w
 refine WC.sr (W.run 1 rfl (W.nx (WC.sr (W.run 1 rfl (W.nx (WC.seq (WC.sr (W.run 1 rfl ?_))))))))
 refine W.a (.nilCheck rfl) ?_
 refine W.a (.field0 fa100_2 rfl) ?_
 refine W.r (.loadB (v := .map (some gh)) na98 rfl (hL.hp.le L0) rfl) ?_
 refine W.ef rfl rfl rfl ?_
 refine Ef.rangeG underlying98 rfl (hL.hH.le L0) ?_
 intro r2_4 w2_4 hg2_4 b2_4 h2_4
 have L1 := L0.trans h2_4
 refine W.nx (WC.block ?_)
 refine WC.loop (ι := (Array Nat)) (fun seen => [(1, .int .i64 (ch)), (2, .int .i64 (side)), (7, .int .i64 ((heldL lh ch side - sumF (heldF ch side) (unsG lh seen)))), (14, .pointer (some ⟨r2_4, 0, none⟩))]) (fun seen wl0 => Le w wl0 /\ w2_4.heap.size <= wl0.heap.size /\ ItG wl0 r2_4 gh ck seen) (fun seen => (unsG lh seen).length) (#[]) ?_ ?_ ?_
 ·exact .cons rfl (.cons rfl (.cons' rfl (int_eq (by rw [unsG_nil]; show _ = sumF _ lh - _; omega)) (.cons rfl (.nil _))))
 ·exact ⟨L1, Nat.le_refl _, b2_4⟩
 rintro seen wl0 ⟨Ll0, zl0, f0_0⟩
 refine WC.sr (W.ef rfl rfl rfl ?_)
 refine Ef.nextG rfl (hL.hH.le Ll0) f0_0 ?_ ?_
 ·intro hu3_0
  refine W.run 1 rfl (W.nx (WC.seq (WC.condF rfl (WC.exit (E.thenX (E.thenX (E.blkH (E.thenN (WC.sr (W.run 2 rfl (W.nx (WC.ret ?_))))))))))))
  refine E.retG1 rfl rfl ?_
  exact ⟨congrArg (fun b => Ending.returned (Value.int .i64 b)) (by rw [hu3_0, sumF_nil]; omega), Ll0⟩
 intro e3_0 w3_0 he3_0 b3_0 h3_0
 have L2 := Ll0.tb h3_0 L0 hg2_4
 have hp3_0 := unsG_push (hL.hH.le Ll0).2 he3_0
 have hl3_0 := hp3_0.length_eq
 rw [List.length_cons] at hl3_0
 refine W.run 1 rfl (W.nx (WC.seq (WC.condT rfl (WC.sn (WC.block (WC.sr (W.ef rfl rfl rfl ?_)))))))
 refine Ef.entryG (e := e3_0) rfl (hL.hH.le L2) b3_0 (unsG_mem he3_0) ?_
 refine W.a (.extract (v := .agg (placeV e3_0.2.1).toArray) rfl rfl) ?_
 refine W.a (.extract (v := .agg (holdV e3_0.2.2).toArray) rfl rfl) ?_
 refine W.ef rfl rfl rfl ?_
 refine Ef.allocA z114 ?_
 intro g4_3 w4_3 hg4_3 b4_3 h4_3
 have L3 := L2.trans h4_3
 have b4_3 : Blk w4_3 g4_3 114 (placeV noSpot).toArray := b4_3
 refine W.ef rfl rfl rfl ?_
 refine Ef.allocA z116 ?_
 intro g4_4 w4_4 hg4_4 b4_4 h4_4
 have L4 := L3.trans h4_4
 have b4_4 : Blk w4_4 g4_4 116 (holdV noHold).toArray := b4_4
 have f5 := (b4_3.le h4_4)
 refine W.ef0 rfl rfl ?_
 refine Ef.storeAll sz114 (by rfl) rfl rfl f5 (by simp only [List.size_toArray, placeV_row.len]) (placeV_row.one e3_0.2.1) ?_
 intro w4_5 b4_5 h4_5
 have b4_5 : Blk w4_5 g4_3 114 (placeV e3_0.2.1).toArray := b4_5
 have L6 := L4.tb h4_5 L2 hg4_3
 have f7 := (b4_4.ch h4_5 (fun h => (show g4_3 ≠ g4_4 from by have := b4_3.lt; omega) (oI h)))
 refine W.ef0 rfl rfl ?_
 refine Ef.storeAll sz116 (by rfl) rfl rfl f7 (by simp only [List.size_toArray, holdV_row.len]) (holdV_row.one e3_0.2.2) ?_
 intro w4_6 b4_6 h4_6
 have b4_6 : Blk w4_6 g4_4 116 (holdV e3_0.2.2).toArray := b4_6
 have L8 := L6.tb h4_6 L3 hg4_4
 refine W.nx (WC.sr ?_)
 refine W.a (.field0 fa114_0 rfl) ?_
 have f9 := (b4_5.ch h4_6 (fun h => (show g4_4 ≠ g4_3 from by have := b4_3.lt; omega) (oI h)))
 refine W.r (.loadB (v := .int .i64 (e3_0.2.1.ch)) na3 rfl f9 rfl) ?_
 refine W.run 2 rfl ?_
 by_cases q5_4 : e3_0.2.1.ch = ch
 ·refine W.dt q5_4 rfl rfl ?_
  refine W.g (Any.rd (.field0 fa114_1 rfl) _) ?_
  refine W.g (.loadB (v := .int .i64 (e3_0.2.1.side)) na3 rfl f9 rfl) ?_
  refine W.run 3 rfl (W.nx ?_)
  by_cases c1 : e3_0.2.1.side = side
  ·refine WC.condY rfl (decide_eq_true c1) ?_
   refine WC.region (W.run 1 rfl ?_)
   refine W.a (.field0 fa116_0 rfl) ?_
   refine W.r (.loadB (v := .int .i64 (e3_0.2.2.am)) na3 rfl b4_6 rfl) ?_
   refine W.a (.add rfl rfl (by have h1 := sumF_perm (f := heldF ch side) hp3_0; rw [sumF_cons] at h1; have h2 := sumF_uns (f := heldF ch side) (seen := seen.push e3_0.1) (heldF_nn (ch := ch) (side := side) hb); have h3 : heldF ch side e3_0.2.1 e3_0.2.2 = e3_0.2.2.am := if_pos ⟨by assumption, by assumption⟩; unfold heldL at *; omega)) ?_
   refine W.run 1 rfl (W.nil (E.blkN ?_))
   have f10 := (((b3_0.le (h4_3.trans h4_4)).ch h4_5 (fun h => (show g4_3 ≠ r2_4 from by have := b3_0.lt; omega) (oI h))).ch h4_6 (fun h => (show g4_4 ≠ r2_4 from by have := b3_0.lt; have := h4_3.size; omega) (oI h)))
   refine E.again (seen.push e3_0.1) (.cons rfl (.cons rfl (.cons' rfl (int_eq (by have := sumF_perm (f := heldF ch side) hp3_0; rw [sumF_cons] at this; unfold heldF at this; first | (rw [if_pos ⟨by assumption, by assumption⟩] at this; unfold heldF; omega) | (rw [if_neg (by simp [q5_4, c1])] at this; unfold heldF; omega))) (.cons rfl (.nil _))))) ?_ ?_
   ·exact ⟨L8, by have := zl0; have := h3_0.size; have := h4_3.size; have := h4_4.size; have := h4_5.size; have := h4_6.size; omega, f10⟩
   first | omega | (simp only []; omega)
  refine WC.condN rfl (decide_eq_false c1) ?_
  refine WC.skip (E.blkN ?_)
  have f11 := (((b3_0.le (h4_3.trans h4_4)).ch h4_5 (fun h => (show g4_3 ≠ r2_4 from by have := b3_0.lt; omega) (oI h))).ch h4_6 (fun h => (show g4_4 ≠ r2_4 from by have := b3_0.lt; have := h4_3.size; omega) (oI h)))
  refine E.again (seen.push e3_0.1) (.cons rfl (.cons rfl (.cons' rfl (int_eq (by have := sumF_perm (f := heldF ch side) hp3_0; rw [sumF_cons] at this; unfold heldF at this; first | (rw [if_pos ⟨by assumption, by assumption⟩] at this; unfold heldF; omega) | (rw [if_neg (by simp [q5_4, c1])] at this; unfold heldF; omega))) (.cons rfl (.nil _))))) ?_ ?_
  ·exact ⟨L8, by have := zl0; have := h3_0.size; have := h4_3.size; have := h4_4.size; have := h4_5.size; have := h4_6.size; omega, f11⟩
  first | omega | (simp only []; omega)
 refine W.df q5_4 rfl rfl (W.run 5 rfl (W.nx (WC.condF rfl (WC.skip (E.blkN ?_)))))
 have f12 := (((b3_0.le (h4_3.trans h4_4)).ch h4_5 (fun h => (show g4_3 ≠ r2_4 from by have := b3_0.lt; omega) (oI h))).ch h4_6 (fun h => (show g4_4 ≠ r2_4 from by have := b3_0.lt; have := h4_3.size; omega) (oI h)))
 refine E.again (seen.push e3_0.1) (.cons rfl (.cons rfl (.cons' rfl (int_eq (by have := sumF_perm (f := heldF ch side) hp3_0; rw [sumF_cons] at this; unfold heldF at this; first | (rw [if_pos ⟨by assumption, by assumption⟩] at this; unfold heldF; omega) | (rw [if_neg (by simp [q5_4])] at this; unfold heldF; omega))) (.cons rfl (.nil _))))) ?_ ?_
 ·exact ⟨L8, by have := zl0; have := h3_0.size; have := h4_3.size; have := h4_4.size; have := h4_5.size; have := h4_6.size; omega, f12⟩
 first | omega | (simp only []; omega)
end Go.Proofs.YtgpaekbdbpkogaaGreat

namespace Go.Proofs.YtgpaekbdbpkogaaGreat
open Tryz
open Go Go.Sx Go.Num Go.Gsp Go.Lsp
set_option maxRecDepth 20000
theorem worthF_nn {lh : HM} {ls : SM} {party : Int} (hb : ∀ x ∈ lh, 0 <= x.2.2.am) (hw : ∀ x ∈ ls, 0 <= x.2.2.h0 /\ 0 <= x.2.2.h1) : ∀ x ∈ ls, 0 <= worthF lh party x.2.1 x.2.2 := by
  intro x hx
  have h1 : ∀ s, 0 <= heldL lh x.2.1 s := fun s => sumF_nonneg (heldF_nn hb)
  have := hw x hx
  have := h1 0
  have := h1 1
  unfold worthF
  split <;> split <;> omega
theorem seat_h_nn {s : Seat} (k : Nat) (h0 : 0 <= s.h0) (h1 : 0 <= s.h1) : 0 <= s.h k := by
  unfold Seat.h
  split
  · exact h0
  · exact h1
def worthK (lh : HM) (party ch : Int) (s : Seat) (k : Nat) : Int := (if 0 < k /\ s.p0 = party then s.h0 + heldL lh ch 0 else 0) + (if 1 < k /\ s.p1 = party then s.h1 + heldL lh ch 1 else 0)
theorem worthK_0 (lh : HM) (party ch : Int) (s : Seat) : worthK lh party ch s 0 = 0 := by simp [worthK]
theorem worthK_2 (lh : HM) (party ch : Int) (s : Seat) : worthK lh party ch s 2 = worthF lh party ch s := by simp [worthK, worthF]
theorem worthK_step {lh : HM} {party ch : Int} {s : Seat} {k : Nat} (hk : k < 2) : worthK lh party ch s (k + 1) = worthK lh party ch s k + if s.p k = party then s.h k + heldL lh ch (k : Int) else 0 := by
  have : k = 0 \/ k = 1 := by omega
  rcases this with rfl | rfl
  · simp [worthK, Seat.p, Seat.h]
  · simp [worthK, Seat.p, Seat.h]
theorem worthK_le {lh : HM} {party ch : Int} {s : Seat} (k : Nat) (hb : ∀ x ∈ lh, 0 <= x.2.2.am) (h0 : 0 <= s.h0) (h1 : 0 <= s.h1) : 0 <= worthK lh party ch s k /\ worthK lh party ch s k <= worthF lh party ch s := by
  have e0 : 0 <= heldL lh ch 0 := sumF_nonneg (heldF_nn hb)
  have e1 : 0 <= heldL lh ch 1 := sumF_nonneg (heldF_nn hb)
  unfold worthK worthF
  by_cases a : s.p0 = party <;> by_cases b : s.p1 = party <;> by_cases c : 0 < k <;> by_cases d : 1 < k <;> simp [a, b, c, d] <;> omega
theorem iclone_ok {Aq : Option Addr} {n cq : Nat} {xs : List Int} (w : World) (hO : Vec w iv 1 Aq n xs) (hn : n <= 1000000) : Calls prog 34 #[.slice Aq n cq] w fun r w' => ∃ (A : Option Addr) (c : Nat), r = .returned (.slice A n c) /\ OVec w' w.heap.size 3 iv 1 A n c xs /\ Le w w' := by
 refine enter func34 rfl rfl ?_
 have L0 := Le.refl w
 refine WC.sr (W.run 1 rfl (W.nx (WC.seq (WC.sr (W.run 1 rfl ?_)))))
 refine W.a (.isNil underlying56 rfl) ?_
 refine W.nx ?_
 by_cases c0 : Aq.isNone = true
 ·refine WC.condY rfl (c0) ?_
  refine WC.sr (W.run 1 rfl (W.nx (WC.ret (E.thenR ?_))))
  refine E.retG1 rfl rfl ?_
  have hn0 : n = 0 := (Nat.eq_zero_of_not_pos (fun hp => by have := hO.isSome iv_row hp; rw [Option.isSome_iff_ne_none] at this; exact this (Option.isNone_iff_eq_none.1 c0))); subst hn0; have hx : xs = [] := List.eq_nil_of_length_eq_zero hO.1; subst hx; exact ⟨none, 0, rfl, OVec.nil _ _ _ _ _ _, L0⟩
 refine WC.condN rfl ((Bool.eq_false_iff.2 c0)) ?_
 refine WC.sn (WC.sr (W.ef rfl rfl rfl ?_))
 refine Ef.buildSlice0 underlying56 el3 ?_
 intro g3_0 w3_0 hg3_0 b3_0 h3_0
 have L1 := L0.trans h3_0
 have o3_0 : OVec w3_0 w.heap.size 3 iv 1 (some ⟨g3_0, 0, none⟩) 0 0 [] := OVec.nil _ _ _ _ _ _
 refine W.run 1 rfl (W.ef rfl rfl rfl ?_)
 refine Ef.vcat underlying56 el3 underlying56 iv_row rfl o3_0 rfl (hO.le L1) (by omega) (by unfold maxLen; omega) (by have := h3_0.size; omega) ?_
 intro A3_2 c3_2 w3_2 o3_2 h3_2 at3_2
 have L2 := L1.then_ h3_2 (fun q hq => Nat.le_trans L0.size (o3_0.row hq).1)
 have o3 := o3_2.cast (m' := n) (ys := xs) (by omega) (by simp)
 refine W.run 1 rfl (W.nx (WC.ret ?_))
 refine E.retG1 rfl rfl ?_
 exact ⟨_, _, (by rw [show 0 + n = n by omega]), (o3.mono L0.size), L2⟩

theorem sclone_ok {g ck : Nat} {l : SM} (w : World) (hM : MapG w ikf seatf g l ck) : Calls prog 50 #[.map (some g)] w fun r w' => ∃ g', r = .returned (.map (some g')) /\ w.heap.size <= g' /\ MapG w' ikf seatf g' l ck /\ Le w w' := by
 refine enter func50 rfl rfl ?_
 have L0 := Le.refl w
 refine WC.sr (W.run 1 rfl (W.nx (WC.seq (WC.sr (W.run 1 rfl ?_)))))
 refine W.a (.dec (.isNilM underlying97 rfl) rfl) ?_
 refine W.nx (WC.condF rfl (WC.sn (WC.sr (W.run 1 rfl ?_))))
 refine W.a (.makeI underlying97 rfl rfl) ?_
 refine W.ef rfl rfl rfl ?_
 refine Ef.cloneM func82 rfl rfl (by kernel_rfl) (by kernel_rfl) rfl (hM.le L0) ?_
 intro g3_2 w3_2 hg3_2 b3_2 h3_2
 have L1 := L0.trans h3_2
 refine W.r (.assertM underlying97 rfl) ?_
 refine W.run 1 rfl (W.nx (WC.ret ?_))
 refine E.retG1 rfl rfl ?_
 exact ⟨_, rfl, (by have := hg3_2; have := L0.size; omega), b3_2, L1⟩



theorem lworth_ok {gp gs gh c cs ck : Nat} {A : Option Addr} {own : List Int} {ls : SM} {lh : HM} {lost : Int} (party : Int) (w : World) (hL : LedL w gp gs gh A c cs ck own ls lh lost) (hb : ∀ x ∈ lh, 0 <= x.2.2.am) (hw : ∀ x ∈ ls, 0 <= x.2.2.h0 /\ 0 <= x.2.2.h1) (ho : 0 <= ownL own party) (ht : worthL own ls lh party <= 4611686018427387904) : Calls prog 17 #[.pointer (some ⟨gp, 0, none⟩), .int .i64 (party)] w fun r w' => r = .returned (.int .i64 (worthL own ls lh party)) /\ Le w w' := by
 have hnn := worthF_nn (party := party) hb hw
 refine enter func17 rfl rfl ?_
 have L0 := Le.refl w
 refine WC.sr (W.run 1 rfl (W.nx (WC.sr (W.run 2 rfl ?_))))
 refine W.cl go21 rfl rfl (lown_ok party w (hL.le L0)) ?_
 rintro _ w1_2 ⟨rfl, h1_2⟩
 have L1 := L0.trans h1_2
 refine W.run 1 rfl (W.nx (WC.seq (WC.sr (W.run 1 rfl ?_))))
 refine W.a (.nilCheck rfl) ?_
 refine W.a (.field0 fa100_1 rfl) ?_
 refine W.r (.loadB (v := .map (some gs)) na97 rfl (hL.hp.le L1) rfl) ?_
 refine W.ef rfl rfl rfl ?_
 refine Ef.rangeG underlying97 rfl (hL.hS.le L1) ?_
 intro r2_4 w2_4 hg2_4 b2_4 h2_4
 have L2 := L1.trans h2_4
 refine W.nx (WC.block ?_)
 refine WC.loop (ι := (Array Nat)) (fun seen => [(0, .pointer (some ⟨gp, 0, none⟩)), (1, .int .i64 (party)), (5, .int .i64 ((worthL own ls lh party - sumF (worthF lh party) (unsG ls seen)))), (17, .pointer (some ⟨r2_4, 0, none⟩))]) (fun seen wl0 => Le w wl0 /\ w2_4.heap.size <= wl0.heap.size /\ MapG wl0 ikf seatf gs ls cs /\ MapG wl0 plf holdf gh lh ck /\ ItG wl0 r2_4 gs cs seen) (fun seen => (unsG ls seen).length) (#[]) ?_ ?_ ?_
 ·exact .cons rfl (.cons rfl (.cons' rfl (int_eq (by rw [unsG_nil]; unfold worthL; omega)) (.cons rfl (.nil _))))
 ·exact ⟨L2, Nat.le_refl _, (hL.hS.le L2), (hL.hH.le L2), b2_4⟩
 rintro seen wl0 ⟨Ll0, zl0, f0_0, f0_1, f0_2⟩
 refine WC.sr (W.ef rfl rfl rfl ?_)
 refine Ef.nextG rfl f0_0 f0_2 ?_ ?_
 ·intro hu3_0
  refine W.run 1 rfl (W.nx (WC.seq (WC.condF rfl (WC.exit (E.thenX (E.thenX (E.blkH (E.thenN (WC.sr (W.run 2 rfl (W.nx (WC.ret ?_))))))))))))
  refine E.retG1 rfl rfl ?_
  exact ⟨congrArg (fun b => Ending.returned (Value.int .i64 b)) (by rw [hu3_0, sumF_nil]; omega), Ll0⟩
 intro e3_0 w3_0 he3_0 b3_0 h3_0
 have L3 := Ll0.tb h3_0 L1 hg2_4
 have hp3_0 := unsG_push f0_0.2 he3_0
 have hl3_0 := hp3_0.length_eq
 rw [List.length_cons] at hl3_0
 have hsq := hw _ (unsG_mem he3_0)
 have hsu := sumF_uns (f := worthF lh party) (seen := seen.push e3_0.1) hnn
 have hsp := sumF_perm (f := worthF lh party) hp3_0
 rw [sumF_cons] at hsp
 have hsu2 := sumF_uns (f := worthF lh party) (seen := seen) hnn
 refine W.run 1 rfl (W.nx (WC.seq (WC.condT rfl (WC.sn (WC.block (WC.sr ?_))))))
 have f4 := (f0_0.ch h3_0 (fun h => (show r2_4 ≠ gs from by have := hL.hS.lt; have := h1_2.size; omega) (oI h)))
 refine W.ef rfl rfl rfl ?_
 refine Ef.entryG (e := e3_0) rfl f4 b3_0 (unsG_mem he3_0) ?_
 refine W.run 1 rfl ?_
 refine W.a (.extract (v := .agg (seatV e3_0.2.2).toArray) rfl rfl) ?_
 refine W.ef rfl rfl rfl ?_
 refine Ef.allocA z60 ?_
 intro g4_3 w4_3 hg4_3 b4_3 h4_3
 have L5 := L3.trans h4_3
 have b4_3 : Blk w4_3 g4_3 60 (seatV noSeat).toArray := b4_3
 refine W.run 1 rfl ?_
 refine W.ef0 rfl rfl ?_
 refine Ef.storeAll sz60 (by rfl) rfl rfl b4_3 (by simp only [List.size_toArray, seatV_row.len]) (seatV_row.one e3_0.2.2) ?_
 intro w4_5 b4_5 h4_5
 have b4_5 : Blk w4_5 g4_3 60 (seatV e3_0.2.2).toArray := b4_5
 have L6 := L5.tb h4_5 L3 hg4_3
 refine W.nx (WC.sr ?_)
 refine W.a (.field0 fa60_1 rfl) ?_
 refine W.r (.bpart [.int .i64 (e3_0.2.2.p0), .int .i64 (e3_0.2.2.p1)] ag48 rfl (by decide) rfl b4_5 rfl) ?_
 refine W.run 1 rfl (W.nx (WC.block ?_))
 have f7 := ((f4.le h4_3).ch h4_5 (fun h => (show g4_3 ≠ gs from by have := f4.lt; omega) (oI h)))
 have f8 := (((f0_1.ch h3_0 (fun h => (show r2_4 ≠ gh from by have := hL.hH.lt; have := h1_2.size; omega) (oI h))).le h4_3).ch h4_5 (fun h => (show g4_3 ≠ gh from by have := f0_1.lt; have := h3_0.size; omega) (oI h)))
 have f9 := ((b3_0.le h4_3).ch h4_5 (fun h => (show g4_3 ≠ r2_4 from by have := b3_0.lt; omega) (oI h)))
 refine WC.loop (ι := Nat) (fun k => [(0, .pointer (some ⟨gp, 0, none⟩)), (1, .int .i64 (party)), (5, .int .i64 ((worthL own ls lh party - sumF (worthF lh party) (unsG ls seen) + worthK lh party e3_0.2.1 e3_0.2.2 k))), (6, .int .i64 (e3_0.2.1)), (7, .pointer (some ⟨g4_3, 0, none⟩)), (17, .pointer (some ⟨r2_4, 0, none⟩)), (24, .agg #[.int .i64 (e3_0.2.2.p0), .int .i64 (e3_0.2.2.p1)]), (25, .int .i64 (((k : Nat) : Int)))]) (fun k wl1 => (k <= 2) /\ Le w wl1 /\ w4_5.heap.size <= wl1.heap.size /\ MapG wl1 ikf seatf gs ls cs /\ MapG wl1 plf holdf gh lh ck /\ Blk wl1 g4_3 60 (seatV e3_0.2.2).toArray /\ ItG wl1 r2_4 gs cs (seen.push e3_0.1)) (fun k => 2 - k) 0 ?_ ?_ ?_
 ·exact .cons rfl (.cons rfl (.cons' rfl (int_eq (by rw [worthK_0]; omega)) (.cons rfl (.cons rfl (.cons rfl (.cons rfl (.cons rfl (.nil _))))))))
 ·exact ⟨Nat.zero_le _, L6, Nat.le_refl _, f7, f8, b4_5, f9⟩
 rintro k wl1 ⟨hk, Ll1, zl1, f1_0, f1_1, f1_2, f1_3⟩
 have hkl := worthK_le (lh := lh) (party := party) (ch := e3_0.2.1) (s := e3_0.2.2) k hb hsq.1 hsq.2
 have hkl2 := worthK_le (lh := lh) (party := party) (ch := e3_0.2.1) (s := e3_0.2.2) (k + 1) hb hsq.1 hsq.2
 refine WC.sr (W.run 1 rfl (W.nx (WC.seq ?_)))
 by_cases c1 : ((k : Nat) : Int) < 2
 ·refine WC.condY rfl (decide_eq_true c1) ?_
  refine WC.sn (WC.seq (WC.block (WC.sr (W.run 1 rfl ?_))))
  refine W.a (.index1 (v := .int .i64 ((e3_0.2.2.p k))) (k) underlying48 sz3 na3 rfl rfl (rfl) (by omega) (seatP_ix e3_0.2.2 (by omega))) ?_
  refine W.run 2 rfl (W.nx (WC.sr (W.run 3 rfl (W.nx ?_))))
  by_cases c2 : (e3_0.2.2.p k) = party
  ·refine WC.condY rfl (decide_eq_true c2) ?_
   have hhn : 0 <= heldL lh e3_0.2.1 ((k : Nat) : Int) := sumF_nonneg (heldF_nn hb)
   have hhk := seat_h_nn k hsq.1 hsq.2
   have hst := worthK_step (lh := lh) (party := party) (ch := e3_0.2.1) (s := e3_0.2.2) (k := k) (by omega)
   rw [if_pos c2] at hst
   have hwl : worthL own ls lh party = ownL own party + sumF (worthF lh party) ls := rfl
   refine WC.draw [0, 1, 2, 3, 4, 5, 6, 7, 8, 9, 10, 11] mixed (by kernel_rfl) ?_
   intro w9 d9
   have L10 := Ll1.trans d9
   refine G.run 2 rfl ?_
   refine G.a rfl (.field0 fa60_2 rfl) ?_
   refine G.a rfl (.idxAo (k) underlying48 sz3 rfl rfl (rfl) (by omega)) ?_
   have f11 := (f1_2.le d9)
   refine G.r rfl (.loadB (v := .int .i64 ((e3_0.2.2.h k))) na3 rfl f11 (seatH_at e3_0.2.2 (by omega))) ?_
   refine G.run 3 rfl ?_
   refine G.ef rfl rfl rfl rfl rfl ?_
   refine Ef.call go22 rfl rfl (lheld_ok e3_0.2.1 ((k : Nat) : Int) w9 (hL.le L10) hb (by omega)) ?_
   rintro _ w9_8 ⟨rfl, h9_8⟩
   refine ⟨_, rfl, ?_⟩
   refine ⟨fun _ => h9_8, ?_⟩
   have L12 := L10.trans h9_8
   refine G.a rfl (.add rfl rfl (by omega)) ?_
   refine G.a rfl (.add rfl rfl (by omega)) ?_
   refine G.run 1 rfl (G.nil (E.blkN (E.thenN (WC.region ?_))))
   refine W.a (.add rfl rfl (by omega)) ?_
   refine W.run 1 rfl (W.nil ?_)
   have f13 := (f1_0.le (d9.trans h9_8))
   have f14 := (f1_1.le (d9.trans h9_8))
   have f15 := (f11.le h9_8)
   have f16 := (f1_3.le (d9.trans h9_8))
   refine E.again (k + 1) (.cons rfl (.cons rfl (.cons' rfl (int_eq (by rw [worthK_step (by omega)]; first | (rw [if_pos c2]; omega) | (rw [if_neg c2]; omega))) (.cons rfl (.cons rfl (.cons rfl (.cons rfl (.cons rfl (.nil _))))))))) ?_ ?_
   ·exact ⟨by omega, L12, by have := zl1; have := d9.size; have := h9_8.size; omega, f13, f14, f15, f16⟩
   first | omega | (simp only []; omega)
  refine WC.condN rfl (decide_eq_false c2) ?_
  refine WC.skip (E.blkN (E.thenN (WC.region ?_)))
  refine W.a (.add rfl rfl (by omega)) ?_
  refine W.run 1 rfl (W.nil ?_)
  refine E.again (k + 1) (.cons rfl (.cons rfl (.cons' rfl (int_eq (by rw [worthK_step (by omega)]; first | (rw [if_pos c2]; omega) | (rw [if_neg c2]; omega))) (.cons rfl (.cons rfl (.cons rfl (.cons rfl (.cons rfl (.nil _))))))))) ?_ ?_
  ·exact ⟨by omega, Ll1, by have := zl1; omega, f1_0, f1_1, f1_2, f1_3⟩
  first | omega | (simp only []; omega)
 refine WC.condN rfl (decide_eq_false c1) ?_
 refine WC.exit (E.thenX (E.thenX (E.blkH (E.blkN ?_))))
 refine E.again (seen.push e3_0.1) (.cons rfl (.cons rfl (.cons' rfl (int_eq (by have h9 := sumF_perm (f := worthF lh party) hp3_0; rw [sumF_cons] at h9; have : k = 2 := (by omega); subst this; rw [worthK_2]; omega)) (.cons rfl (.nil _))))) ?_ ?_
 ·exact ⟨Ll1, by have := zl0; have := zl1; have := h1_2.size; have := h2_4.size; have := h3_0.size; have := h4_3.size; have := h4_5.size; omega, f1_0, f1_1, f1_3⟩
 first | omega | (simp only []; omega)
end Go.Proofs.YtgpaekbdbpkogaaGreat

namespace Go.Proofs.YtgpaekbdbpkogaaGreat
open Tryz
open Go Go.Sx Go.Num Go.Gsp Go.Lsp
set_option maxRecDepth 20000
theorem coin_iff {n : Int} : coinL n = true ↔ 0 <= n /\ n <= 1125899906842624 := by simp [coinL]
theorem lmay_ok {gp gs gh c cs ck : Nat} {A : Option Addr} {own : List Int} {ls : SM} {lh : HM} {lost : Int} (s : Seat) (w : World) (hL : LedL w gp gs gh A c cs ck own ls lh lost) : Calls prog 35 #[.pointer (some ⟨gp, 0, none⟩), .agg (seatV s).toArray] w fun r w' => ∃ b : Bool, r = .returned (.bool b) /\ (b = true ↔ mayL own.length s) /\ Le w w' := by
 refine enter func35 rfl rfl ?_
 have L0 := Le.refl w
 refine WC.sr (W.ef rfl rfl rfl ?_)
 refine Ef.boxA rfl ?_
 intro g0_0 w0_0 hg0_0 b0_0 h0_0
 have L1 := L0.trans h0_0
 have b0_0 : Blk w0_0 g0_0 60 (seatV s).toArray := b0_0
 refine W.run 1 rfl (W.nx (WC.seq (WC.sr ?_)))
 refine W.a (.field0 fa60_1 rfl) ?_
 refine W.r (.bpart [.int .i64 (s.p0), .int .i64 (s.p1)] ag48 rfl (by decide) rfl b0_0 rfl) ?_
 refine W.run 1 rfl (W.nx (WC.block ?_))
 refine WC.loop (ι := Nat) (fun k => [(0, .pointer (some ⟨gp, 0, none⟩)), (3, .pointer (some ⟨g0_0, 0, none⟩)), (8, .agg #[.int .i64 (s.p0), .int .i64 (s.p1)]), (9, .int .i64 (((k : Nat) : Int)))]) (fun k wl0 => (k <= 2) /\ (∀ i, i < k -> 0 <= s.p i /\ s.p i < own.length /\ 0 <= s.h i /\ s.h i <= 1125899906842624) /\ Le w wl0 /\ w0_0.heap.size <= wl0.heap.size /\ MapG wl0 ikf seatf gs ls cs /\ MapG wl0 plf holdf gh lh ck /\ Blk wl0 g0_0 60 (seatV s).toArray) (fun k => 2 - k) 0 ?_ ?_ ?_
 ·exact .cons rfl (.cons rfl (.cons rfl (.cons rfl (.nil _))))
 ·exact ⟨Nat.zero_le _, fun i hi => by omega, L1, Nat.le_refl _, (hL.hS.le L1), (hL.hH.le L1), b0_0⟩
 rintro k wl0 ⟨hk, hall, Ll0, zl0, f0_0, f0_1, f0_2⟩
 refine WC.sr (W.run 1 rfl (W.nx (WC.seq ?_)))
 by_cases c0 : ((k : Nat) : Int) < 2
 ·refine WC.condY rfl (decide_eq_true c0) ?_
  refine WC.sn (WC.seq (WC.block (WC.sr (W.run 1 rfl ?_))))
  refine W.a (.index1 (v := .int .i64 ((s.p k))) (k) underlying48 sz3 na3 rfl rfl (rfl) (by omega) (seatP_ix s (by omega))) ?_
  refine W.run 2 rfl (W.nx (WC.sr (W.run 2 rfl ?_)))
  by_cases q4_2 : (s.p k) < 0
  ·refine W.dt q4_2 rfl rfl (W.run 16 rfl (W.nx (WC.condT rfl (WC.sr (W.run 1 rfl (W.nx (WC.ret (E.blkR (E.thenR (E.thenR (E.blkR (E.thenR ?_))))))))))))
   refine E.retG1 rfl rfl ?_
   exact ⟨false, rfl, ⟨fun h => (by cases h), fun h => by have hh := (mayL_all.1 h).1 k (by omega); (try simp only [coin_iff] at *); omega⟩, Ll0⟩
  refine W.df q4_2 rfl rfl (W.run 2 rfl ?_)
  refine W.g (Any.rd (.nilCheck rfl) _) ?_
  refine W.g (Any.rd (.field0 fa100_0 rfl) _) ?_
  refine W.g (.loadB (v := .slice A own.length c) na56 rfl (hL.hp.le Ll0) rfl) ?_
  refine W.g (.len underlying56 rfl) ?_
  refine W.run 2 rfl ?_
  by_cases q4_11 : ((own.length : Nat) : Int) <= (s.p k)
  ·refine W.dt q4_11 rfl rfl (W.run 7 rfl (W.nx (WC.condT rfl (WC.sr (W.run 1 rfl (W.nx (WC.ret (E.blkR (E.thenR (E.thenR (E.blkR (E.thenR ?_))))))))))))
   refine E.retG1 rfl rfl ?_
   exact ⟨false, rfl, ⟨fun h => (by cases h), fun h => by have hh := (mayL_all.1 h).1 k (by omega); (try simp only [coin_iff] at *); omega⟩, Ll0⟩
  refine W.df q4_11 rfl rfl (W.run 1 rfl ?_)
  refine W.g (Any.rd (.field0 fa60_2 rfl) _) ?_
  refine W.g (Any.rd (.idxAo (k) underlying48 sz3 rfl rfl (rfl) (by omega)) _) ?_
  refine W.g (.loadB (v := .int .i64 ((s.h k))) na3 rfl f0_2 (seatH_at s (by omega))) ?_
  refine W.efg rfl rfl rfl (rfl) rfl rfl ?_
  refine Ef.call go36 rfl rfl (coin_ok (s.h k) wl0) ?_
  rintro _ w4_16 ⟨rfl, h4_16⟩
  refine ⟨_, rfl, ?_⟩
  have L2 := Ll0.trans h4_16
  refine W.run 2 rfl (W.nx ?_)
  by_cases c1 : (coinL (s.h k)) = true
  ·refine WC.condN rfl (congrArg not (c1)) ?_
   refine WC.skip (E.blkN (E.thenN (WC.region ?_)))
   refine W.a (.add rfl rfl (by omega)) ?_
   refine W.run 1 rfl (W.nil ?_)
   have f3 := (f0_0.le h4_16)
   have f4 := (f0_1.le h4_16)
   have f5 := (f0_2.le h4_16)
   refine E.again (k + 1) (.cons rfl (.cons rfl (.cons rfl (.cons rfl (.nil _))))) ?_ ?_
   ·exact ⟨by omega, fun i hi => (Nat.lt_succ_iff_lt_or_eq.1 hi).elim (hall i) (fun hh => by subst hh; (try simp only [coin_iff] at *); omega), L2, by have := zl0; have := h4_16.size; omega, f3, f4, f5⟩
   first | omega | (simp only []; omega)
  refine WC.condY rfl (congrArg not ((Bool.eq_false_iff.2 c1))) ?_
  refine WC.sr (W.run 1 rfl (W.nx (WC.ret (E.blkR (E.thenR (E.thenR (E.blkR (E.thenR ?_))))))))
  refine E.retG1 rfl rfl ?_
  exact ⟨false, rfl, ⟨fun h => (by cases h), fun h => by have hh := (mayL_all.1 h).1 k (by omega); (try simp only [coin_iff] at *); omega⟩, L2⟩
 refine WC.condN rfl (decide_eq_false c0) ?_
 refine WC.exit (E.thenX (E.thenX (E.blkH (E.thenN (WC.sr ?_)))))
 refine W.a (.field0 fa60_0 rfl) ?_
 refine W.r (.loadB (v := .int .i64 (s.ch)) na3 rfl f0_2 rfl) ?_
 refine W.run 1 rfl ?_
 by_cases q7_3 : 0 <= s.ch
 ·refine W.dt q7_3 rfl rfl ?_
  refine W.g (Any.rd (.field0 fa60_0 rfl) _) ?_
  refine W.g (.loadB (v := .int .i64 (s.ch)) na3 rfl f0_2 rfl) ?_
  refine W.run 2 rfl ?_
  by_cases q7_8 : s.ch < 40
  ·refine W.dt q7_8 rfl rfl ?_
   refine W.g (Any.rd (.field0 fa60_1 rfl) _) ?_
   refine W.g (Any.rd (.idxAo (0) underlying48 sz3 rfl rfl (rfl) (by omega)) _) ?_
   refine W.g (.loadB (v := .int .i64 (s.p0)) na3 rfl f0_2 rfl) ?_
   refine W.g (Any.rd (.field0 fa60_1 rfl) _) ?_
   refine W.g (Any.rd (.idxAo (1) underlying48 sz3 rfl rfl (rfl) (by omega)) _) ?_
   refine W.g (.loadB (v := .int .i64 (s.p1)) na3 rfl f0_2 rfl) ?_
   refine W.run 3 rfl (W.nx (WC.ret ?_))
   refine E.retG1 rfl rfl ?_
   refine ⟨_, rfl, ?_, Ll0⟩; rw [mayL_all]; have hs2 : ∀ i, i < 2 -> 0 <= s.p i /\ s.p i < own.length /\ 0 <= s.h i /\ s.h i <= 1125899906842624 := (fun i hi => hall i (by omega)); simp only [decide_eq_true_eq, Bool.false_eq_true, false_iff]; first | exact ⟨fun h => ⟨hs2, by omega, by omega, h⟩, fun h => h.2.2.2⟩ | exact fun h => by omega
  refine W.df q7_8 rfl rfl (W.run 9 rfl (W.nx (WC.ret ?_)))
  refine E.retG1 rfl rfl ?_
  refine ⟨_, rfl, ?_, Ll0⟩; rw [mayL_all]; have hs2 : ∀ i, i < 2 -> 0 <= s.p i /\ s.p i < own.length /\ 0 <= s.h i /\ s.h i <= 1125899906842624 := (fun i hi => hall i (by omega)); simp only [decide_eq_true_eq, Bool.false_eq_true, false_iff]; first | exact ⟨fun h => ⟨hs2, by omega, by omega, h⟩, fun h => h.2.2.2⟩ | exact fun h => by omega
 refine W.df q7_3 rfl rfl (W.run 14 rfl (W.nx (WC.ret ?_)))
 refine E.retG1 rfl rfl ?_
 refine ⟨_, rfl, ?_, Ll0⟩; rw [mayL_all]; have hs2 : ∀ i, i < 2 -> 0 <= s.p i /\ s.p i < own.length /\ 0 <= s.h i /\ s.h i <= 1125899906842624 := (fun i hi => hall i (by omega)); simp only [decide_eq_true_eq, Bool.false_eq_true, false_iff]; first | exact ⟨fun h => ⟨hs2, by omega, by omega, h⟩, fun h => h.2.2.2⟩ | exact fun h => by omega

theorem give_ok {gp gs gh c n : Nat} {A : Option Addr} {own : List Int} {lost : Int} (s : Seat) (j : Nat) (amount fee : Int) (w : World) (hp0 : Blk w gp 100 #[.slice A n c, .map (some gs), .map (some gh), .int .i64 (lost)]) (hO0 : OVec w 0 3 iv 1 A n c own) (n4 : rowOf A c ≠ some gp) (hj : j < 2) (hp : 0 <= s.p j /\ s.p j < n) (h1 : -2251799813685248 <= amount /\ amount <= 2251799813685248) (h2 : 0 <= fee /\ fee <= 1125899906842624) (h3 : -2251799813685248 <= own.getD (s.p j).toNat 0 /\ own.getD (s.p j).toNat 0 <= 2251799813685248) (h4 : 0 <= lost /\ lost <= 2251799813685248) : Calls prog 37 #[.pointer (some ⟨gp, 0, none⟩), .agg (seatV s).toArray, .int .i64 (((j : Nat) : Int)), .int .i64 (amount), .int .i64 (fee)] w fun r w' => r = .returned (.tuple #[]) /\ Blk w' gp 100 #[.slice A n c, .map (some gs), .map (some gh), .int .i64 (lost + fee)] /\ OVec w' 0 3 iv 1 A n c (own.set (s.p j).toNat (own.getD (s.p j).toNat 0 - (amount + fee))) /\ ChP w w' (fun k => k = gp \/ rowOf A c = some k) := by
 have hon := hO0.1
 refine enter func37 rfl rfl ?_
 have L0 := ChP.refl w (fun k => k = gp \/ rowOf A c = some k)
 refine WC.sr (W.ef rfl rfl rfl ?_)
 refine Ef.boxA rfl ?_
 intro g0_0 w0_0 hg0_0 b0_0 h0_0
 have L1 := L0.le h0_0
 have b0_0 : Blk w0_0 g0_0 60 (seatV s).toArray := b0_0
 refine W.nx (WC.seq ?_)
 refine WC.draw [0, 1, 2, 3, 4, 5, 6, 7, 8, 9, 10, 11, 12, 13, 14, 15] mixed (by kernel_rfl) ?_
 intro w1 d1
 have L2 := L1.le d1
 refine G.run 1 rfl ?_
 refine G.a rfl (.nilCheck rfl) ?_
 refine G.a rfl (.field0 fa100_0 rfl) ?_
 have f3 := (hp0.le (h0_0.trans d1))
 refine G.r rfl (.loadB (v := .slice A n c) na56 rfl f3 rfl) ?_
 refine G.run 1 rfl ?_
 refine G.a rfl (.field0 fa60_1 rfl) ?_
 refine G.a rfl (.idxAo (j) underlying48 sz3 rfl rfl (rfl) (by omega)) ?_
 have f4 := (b0_0.le d1)
 refine G.r rfl (.loadB (v := .int .i64 ((s.p j))) na3 rfl f4 (seatP_at s (by omega))) ?_
 refine G.a rfl (.idxS (((s.p j)).toNat) underlying56 sz3 rfl rfl (hO0.vec.isSome iv_row (by omega)) (by omega) (by omega)) ?_
 have f5 := (hO0.le (h0_0.trans d1))
 refine G.r rfl (.vone (v := .int .i64 ((own.getD (((s.p j)).toNat) 0))) na3 rfl f5.vec iv_row (getS own 0 (by omega)) rfl) ?_
 refine G.run 2 rfl ?_
 refine G.a rfl (.add rfl rfl (by omega)) ?_
 refine G.a rfl (.sub rfl rfl (by omega)) ?_
 refine G.a rfl (.idxS (((s.p j)).toNat) underlying56 sz3 rfl rfl (hO0.vec.isSome iv_row (by omega)) (by omega) (by omega)) ?_
 refine G.ef0 rfl rfl rfl rfl ?_
 refine Ef.vset (j := ((s.p j)).toNat) (o := 0) ((own.getD (((s.p j)).toNat) 0) - (amount + fee)) sz3 rfl (by omega) rfl f5 iv_row (getS own 0 (by omega)) (by decide) rfl rfl ?_
 intro w1_15 o1_15 h1_15
 refine noT (by kernel_rfl) ?_
 have L6 : ChP w w1_15 (fun k => k = gp \/ rowOf A c = some k) := L2.ch h1_15 (fun i hi _ => (fun i hi => Or.inr hi) i hi)
 refine G.nil (E.thenN (WC.region (W.run 1 rfl ?_)))
 refine W.a (.nilCheck rfl) ?_
 refine W.a (.field0 fa100_3 rfl) ?_
 have f7 := (f3.ch h1_15 n4)
 refine W.r (.loadB (v := .int .i64 (lost)) na3 rfl f7 rfl) ?_
 refine W.run 1 rfl ?_
 refine W.a (.add rfl rfl (by omega)) ?_
 refine W.a (.nilCheck rfl) ?_
 refine W.a (.field0 fa100_3 rfl) ?_
 refine W.ef0 rfl rfl ?_
 refine Ef.store sz3 rfl rfl f7 (by first | decide | (simp; done)) (rfl) ?_
 intro w2_8 b2_8 h2_8
 have b2_8 : Blk w2_8 gp 100 #[.slice A n c, .map (some gs), .map (some gh), .int .i64 ((lost + fee))] := b2_8
 have L8 : ChP w w2_8 (fun k => k = gp \/ rowOf A c = some k) := L6.ch h2_8 (fun i hi _ => by cases hi; exact Or.inl rfl)
 refine W.nil (E.end_ ?_)
 have f9 := (o1_15.ch h2_8 (fun q hq => by cases hq; exact n4))
 refine E.ret0 rfl ?_
 exact ⟨rfl, b2_8, f9, L8⟩

theorem lopen_ok {gp gs gh c cs ck : Nat} {A : Option Addr} {own : List Int} {ls : SM} {lh : HM} {lost : Int} (s : Seat) (fee : Int) (w : World) (hL : LedL w gp gs gh A c cs ck own ls lh lost) (hw : ∀ i, 0 <= own.getD i 0 /\ own.getD i 0 <= 1125899906842624) (hl : 0 <= lost /\ lost <= 1125899906842624) : Calls prog 7 #[.pointer (some ⟨gp, 0, none⟩), .agg (seatV s).toArray, .int .i64 (fee)] w fun r w' => ChP w w' (LF gp gs gh A c) /\ ((¬ (mayL own.length s /\ 0 <= fee /\ fee <= 1125899906842624) /\ r = .returned (.int .i64 1) /\ LedL w' gp gs gh A c cs ck own ls lh lost) \/ ((mayL own.length s /\ 0 <= fee /\ fee <= 1125899906842624) /\ (∃ t, getG s.ch ls = some t) /\ r = .returned (.int .i64 4) /\ LedL w' gp gs gh A c cs ck own ls lh lost) \/ ((mayL own.length s /\ 0 <= fee /\ fee <= 1125899906842624) /\ getG s.ch ls = none /\ (own.getD s.p0.toNat 0 < s.h0 + fee \/ own.getD s.p1.toNat 0 < s.h1) /\ r = .returned (.int .i64 8) /\ LedL w' gp gs gh A c cs ck own ls lh lost) \/ ((mayL own.length s /\ 0 <= fee /\ fee <= 1125899906842624) /\ getG s.ch ls = none /\ ¬ (own.getD s.p0.toNat 0 < s.h0 + fee \/ own.getD s.p1.toNat 0 < s.h1) /\ r = .returned (.int .i64 0) /\ LedL w' gp gs gh A c (cs + 1) ck (giveO (giveO own s 0 s.h0 fee) s 1 s.h1 0) (ls ++ [(cs, s.ch, s)]) lh (lost + fee))) := by
 have hp0 := hL.hp
 have hO0 := hL.hO
 have hS0 := hL.hS
 have hH0 := hL.hH
 have n1 := hL.ps
 have n2 := hL.ph
 have n3 := hL.sh
 have n4 := hL.op
 have n5 := hL.os
 have n6 := hL.oh
 have hw0 := hw s.p0.toNat
 have hw1 := hw s.p1.toNat
 have ep0 : s.p 0 = s.p0 := rfl
 have ep1 : s.p 1 = s.p1 := rfl
 refine enter func7 rfl rfl ?_
 have L0 := ChP.refl w (LF gp gs gh A c)
 refine WC.sr (W.ef rfl rfl rfl ?_)
 refine Ef.boxA rfl ?_
 intro g0_0 w0_0 hg0_0 b0_0 h0_0
 have L1 := L0.le h0_0
 have b0_0 : Blk w0_0 g0_0 60 (seatV s).toArray := b0_0
 refine W.run 1 rfl (W.nx (WC.seq (WC.sr (W.run 1 rfl ?_))))
 refine W.r (.loadAll ag60 (by rfl) rfl b0_0) ?_
 have f2 := (hL.le h0_0)
 refine W.cl go35 rfl rfl (lmay_ok s w0_0 f2) ?_
 rintro _ w1_2 ⟨bm1_2, rfl, hbm1_2, h1_2⟩
 have L3 := L1.le h1_2
 refine W.run 1 rfl ?_
 by_cases q1_4 : bm1_2 = true
 ·refine W.a (.dec (.move rfl) (congrArg not (q1_4))) ?_
  refine W.run 1 rfl ?_
  refine W.efg rfl rfl rfl (rfl) rfl rfl ?_
  refine Ef.call go36 rfl rfl (coin_ok fee w1_2) ?_
  rintro _ w1_6 ⟨rfl, h1_6⟩
  refine ⟨_, rfl, ?_⟩
  have L4 := L3.le h1_6
  refine W.run 2 rfl (W.nx ?_)
  by_cases c0 : (coinL fee) = true
  ·refine WC.condN rfl (congrArg not (c0)) ?_
   have hok : mayL own.length s /\ 0 <= fee /\ fee <= 1125899906842624 := ⟨hbm1_2.1 q1_4, coin_iff.1 c0⟩
   have hm := hok.1
   unfold mayL at hm
   refine WC.sn (WC.seq (WC.seq ?_))
   refine WC.draw [0, 1, 2, 3, 4, 5, 6, 7, 8, 9, 10, 11, 12] mixed (by kernel_rfl) ?_
   intro w3 d3
   have L5 := L4.le d3
   refine G.run 1 rfl ?_
   refine G.a rfl (.nilCheck rfl) ?_
   refine G.a rfl (.field0 fa100_1 rfl) ?_
   have f6 := (hp0.le (h0_0.trans (h1_2.trans (h1_6.trans d3))))
   refine G.r rfl (.loadB (v := .map (some gs)) na97 rfl f6 rfl) ?_
   refine G.a rfl (.field0 fa60_0 rfl) ?_
   have f7 := (b0_0.le (h1_2.trans (h1_6.trans d3)))
   refine G.r rfl (.loadB (v := .int .i64 (s.ch)) na3 rfl f7 rfl) ?_
   rcases optG (getG s.ch ls) with hk3_6 | ⟨vhk3_6, hk3_6⟩
   ·have f8 := (hS0.le (h0_0.trans (h1_2.trans (h1_6.trans d3))))
    refine G.r rfl (.as (.lookup2 (key := s.ch) underlying97 kint z60 rfl rfl f8) (by rw [hk3_6] <;> rfl)) ?_
    refine G.run 1 rfl ?_
    refine G.a rfl (.extract (v := .agg (seatV noSeat).toArray) rfl rfl) ?_
    refine G.run 1 rfl ?_
    refine G.ef rfl rfl rfl rfl rfl ?_
    refine Ef.allocA z60 ?_
    intro g3_10 w3_10 hg3_10 b3_10 h3_10
    refine ⟨fun _ => h3_10, ?_⟩
    have L9 := L5.le h3_10
    have b3_10 : Blk w3_10 g3_10 60 (seatV noSeat).toArray := b3_10
    refine G.ef0 rfl rfl rfl rfl ?_
    refine Ef.storeAll sz60 (by rfl) rfl rfl b3_10 (by simp only [List.size_toArray, seatV_row.len]) (seatV_row.one noSeat) ?_
    intro w3_11 b3_11 h3_11
    refine noT (by kernel_rfl) ?_
    have L10 : ChP w w3_11 (LF gp gs gh A c) := L9.ch h3_11 (fun i hi hlt => by cases hi; exact absurd hlt (by have := L5.size; have := hg3_10; omega))
    refine G.run 1 rfl (G.nil (E.thenN (WC.sr (W.run 1 rfl (W.nx (WC.condF rfl (WC.sn (WC.seq (WC.seq ?_)))))))))
    refine WC.draw [0, 1, 2, 3, 4, 5, 6, 7, 8, 9, 10, 11, 12, 13, 14, 15, 16, 17, 18, 19, 20, 21, 22, 23, 24, 25, 26, 27, 28, 29] mixed (by kernel_rfl) ?_
    intro w6 d6
    have L11 := L10.le d6
    refine G.run 1 rfl ?_
    refine G.a rfl (.nilCheck rfl) ?_
    refine G.a rfl (.field0 fa100_0 rfl) ?_
    have f12 := (((f6.le h3_10).ch h3_11 (fun h => (show g3_10 ≠ gp from by have := f6.lt; omega) (oI h))).le d6)
    refine G.r rfl (.loadB (v := .slice A own.length c) na56 rfl f12 rfl) ?_
    refine G.a rfl (.field0 fa60_1 rfl) ?_
    refine G.a rfl (.idxAo (0) underlying48 sz3 rfl rfl (rfl) (by omega)) ?_
    have f13 := (((f7.le h3_10).ch h3_11 (fun h => (show g3_10 ≠ g0_0 from by have := f7.lt; omega) (oI h))).le d6)
    refine G.r rfl (.loadB (v := .int .i64 (s.p0)) na3 rfl f13 rfl) ?_
    refine G.a rfl (.idxS ((s.p0).toNat) underlying56 sz3 rfl rfl (hO0.vec.isSome iv_row (by omega)) (by omega) (by omega)) ?_
    have f14 := (((hO0.le (h0_0.trans (h1_2.trans (h1_6.trans (d3.trans h3_10))))).ch h3_11 (fun q hq => by cases hq; exact (fun he => by have := (hO0.row he).2; have := h0_0.size; have := h1_2.size; have := h1_6.size; have := d3.size; omega))).le d6)
    refine G.r rfl (.vone (v := .int .i64 ((own.getD ((s.p0).toNat) 0))) na3 rfl f14.vec iv_row (getS own 0 (by omega)) rfl) ?_
    refine G.a rfl (.field0 fa60_2 rfl) ?_
    refine G.a rfl (.idxAo (0) underlying48 sz3 rfl rfl (rfl) (by omega)) ?_
    refine G.r rfl (.loadB (v := .int .i64 (s.h0)) na3 rfl f13 rfl) ?_
    refine G.run 1 rfl ?_
    refine G.a rfl (.add rfl rfl (by omega)) ?_
    refine G.run 1 rfl ?_
    by_cases q6_15 : (own.getD ((s.p0).toNat) 0) < (s.h0 + fee)
    ·refine G.a rfl (.dec (.move rfl) (decide_eq_true q6_15)) ?_
     refine G.run 14 rfl (G.nil (E.thenN (WC.condT rfl (WC.sr (W.run 1 rfl (W.nx (WC.ret (E.thenR ?_))))))))
     have f15 := (((f8.le h3_10).ch h3_11 (fun h => (show g3_10 ≠ gs from by have := f8.lt; omega) (oI h))).le d6)
     have f16 := (((hH0.le (h0_0.trans (h1_2.trans (h1_6.trans (d3.trans h3_10))))).ch h3_11 (fun h => (show g3_10 ≠ gh from by have := hH0.lt; have := h0_0.size; have := h1_2.size; have := h1_6.size; have := d3.size; omega) (oI h))).le d6)
     refine E.retG1 rfl rfl ?_
     exact ⟨L11, .inr (.inr (.inl ⟨hok, hk3_6, (by omega), rfl, ⟨f12, f14, f15, f16, n1, n2, n3, n4, n5, n6⟩⟩))⟩
    refine G.a rfl (.dec (.move rfl) (decide_eq_false q6_15)) ?_
    refine G.run 1 rfl ?_
    refine G.ag rfl (.nilCheck rfl) ?_
    refine G.ag rfl (.field0 fa100_0 rfl) ?_
    refine G.rg rfl (.loadB (v := .slice A own.length c) na56 rfl f12 rfl) ?_
    refine G.ag rfl (.field0 fa60_1 rfl) ?_
    refine G.ag rfl (.idxAo (1) underlying48 sz3 rfl rfl (rfl) (by omega)) ?_
    refine G.rg rfl (.loadB (v := .int .i64 (s.p1)) na3 rfl f13 rfl) ?_
    refine G.ag rfl (.idxS ((s.p1).toNat) underlying56 sz3 rfl rfl (hO0.vec.isSome iv_row (by omega)) (by omega) (by omega)) ?_
    refine G.rg rfl (.vone (v := .int .i64 ((own.getD ((s.p1).toNat) 0))) na3 rfl f14.vec iv_row (getS own 0 (by omega)) rfl) ?_
    refine G.ag rfl (.field0 fa60_2 rfl) ?_
    refine G.ag rfl (.idxAo (1) underlying48 sz3 rfl rfl (rfl) (by omega)) ?_
    refine G.rg rfl (.loadB (v := .int .i64 (s.h1)) na3 rfl f13 rfl) ?_
    refine G.run 2 rfl (G.nil (E.thenN ?_))
    by_cases c2 : (own.getD ((s.p1).toNat) 0) < s.h1
    ·refine WC.condY rfl (decide_eq_true c2) ?_
     refine WC.sr (W.run 1 rfl (W.nx (WC.ret (E.thenR ?_))))
     have f17 := (((f8.le h3_10).ch h3_11 (fun h => (show g3_10 ≠ gs from by have := f8.lt; omega) (oI h))).le d6)
     have f18 := (((hH0.le (h0_0.trans (h1_2.trans (h1_6.trans (d3.trans h3_10))))).ch h3_11 (fun h => (show g3_10 ≠ gh from by have := hH0.lt; have := h0_0.size; have := h1_2.size; have := h1_6.size; have := d3.size; omega) (oI h))).le d6)
     refine E.retG1 rfl rfl ?_
     exact ⟨L11, .inr (.inr (.inl ⟨hok, hk3_6, (by omega), rfl, ⟨f12, f14, f17, f18, n1, n2, n3, n4, n5, n6⟩⟩))⟩
    refine WC.condN rfl (decide_eq_false c2) ?_
    refine WC.sn (WC.sr (W.run 1 rfl ?_))
    refine W.r (.loadAll ag60 (by rfl) rfl f13) ?_
    refine W.a (.field0 fa60_2 rfl) ?_
    refine W.a (.idxAo (0) underlying48 sz3 rfl rfl (rfl) (by omega)) ?_
    refine W.r (.loadB (v := .int .i64 (s.h0)) na3 rfl f13 rfl) ?_
    refine W.run 1 rfl ?_
    refine W.cl go37 rfl rfl (give_ok (own := own) (lost := lost) s 0 s.h0 fee w6 f12 f14 n4 (by decide) (by omega) (by omega) (by omega) (by have := hw (s.p 0).toNat; omega) (by omega)) ?_
    rintro _ w8_6 ⟨rfl, bp8_6, bo8_6, h8_6⟩
    have L19 := L11.sub h8_6 (fun i hi hlt => Or.elim hi (fun hi => (by subst hi; exact Or.inl rfl)) (fun hi => ((fun i hi => Or.inr (Or.inr (Or.inr hi))) i hi)))
    refine W.nx (WC.sr (W.run 1 rfl ?_))
    have f20 := (f13.chP h8_6 (fun hF => Or.elim hF (fun hF => (show g0_0 ≠ gp from by have := hp0.lt; omega) hF) (fun hF => (fun he => by have := (hO0.row he).2; omega) hF)))
    refine W.r (.loadAll ag60 (by rfl) rfl f20) ?_
    refine W.a (.field0 fa60_2 rfl) ?_
    refine W.a (.idxAo (1) underlying48 sz3 rfl rfl (rfl) (by omega)) ?_
    refine W.r (.loadB (v := .int .i64 (s.h1)) na3 rfl f20 rfl) ?_
    refine W.cl go37 rfl rfl (give_ok (own := (own.set (s.p 0).toNat (own.getD (s.p 0).toNat 0 - (s.h0 + fee)))) (lost := (lost + fee)) s 1 s.h1 0 w8_6 bp8_6 bo8_6 n4 (by decide) (by omega) (by omega) (by omega) (by have e9 := giveO_ne (own := own) (s := s) (j := 0) (k := 1) (am := s.h0) (fee := fee) (by omega) (by omega) (by omega); unfold giveO at e9; rw [e9]; have := hw (s.p 1).toNat; omega) (by omega)) ?_
    rintro _ w9_5 ⟨rfl, bp9_5, bo9_5, h9_5⟩
    have L21 := L19.sub h9_5 (fun i hi hlt => Or.elim hi (fun hi => (by subst hi; exact Or.inl rfl)) (fun hi => ((fun i hi => Or.inr (Or.inr (Or.inr hi))) i hi)))
    refine W.nx (WC.seq ?_)
    refine WC.draw [0, 1, 2, 3, 4, 5, 6, 7] mixed (by kernel_rfl) ?_
    intro w10 d10
    have L22 := L21.le d10
    refine G.run 1 rfl ?_
    refine G.a rfl (.nilCheck rfl) ?_
    refine G.a rfl (.field0 fa100_1 rfl) ?_
    have f23 := (bp9_5.le d10)
    refine G.r rfl (.loadB (v := .map (some gs)) na97 rfl f23 rfl) ?_
    refine G.a rfl (.field0 fa60_0 rfl) ?_
    have f24 := ((f20.chP h9_5 (fun hF => Or.elim hF (fun hF => (show g0_0 ≠ gp from by have := hp0.lt; omega) hF) (fun hF => (fun he => by have := (hO0.row he).2; omega) hF))).le d10)
    refine G.r rfl (.loadB (v := .int .i64 (s.ch)) na3 rfl f24 rfl) ?_
    refine G.r rfl (.loadAll ag60 (by rfl) rfl f24) ?_
    have f25 := ((((((f8.le h3_10).ch h3_11 (fun h => (show g3_10 ≠ gs from by have := f8.lt; omega) (oI h))).le d6).chP h8_6 (fun hF => Or.elim hF (fun hF => (Ne.symm n1) hF) (fun hF => n5 hF))).chP h9_5 (fun hF => Or.elim hF (fun hF => (Ne.symm n1) hF) (fun hF => n5 hF))).le d10)
    refine G.ef0 rfl rfl rfl rfl ?_
    refine Ef.insertG (key := s.ch) (u := s) underlying97 kint rfl rfl rfl f25 (hk3_6) ?_
    intro w10_7 b10_7 h10_7
    refine noT (by kernel_rfl) ?_
    have L26 : ChP w w10_7 (LF gp gs gh A c) := L22.ch h10_7 (fun i hi _ => by cases hi; exact Or.inr (Or.inl rfl))
    refine G.nil (E.thenN (WC.sr (W.run 1 rfl (W.nx (WC.ret ?_)))))
    have f27 := ((bo9_5.le d10).ch h10_7 (fun q hq => by cases hq; exact n5))
    have f28 := (f23.ch h10_7 (fun h => (Ne.symm n1) (oI h)))
    have f29 := (((((((hH0.le (h0_0.trans (h1_2.trans (h1_6.trans (d3.trans h3_10))))).ch h3_11 (fun h => (show g3_10 ≠ gh from by have := hH0.lt; have := h0_0.size; have := h1_2.size; have := h1_6.size; have := d3.size; omega) (oI h))).le d6).chP h8_6 (fun hF => Or.elim hF (fun hF => (Ne.symm n2) hF) (fun hF => n6 hF))).chP h9_5 (fun hF => Or.elim hF (fun hF => (Ne.symm n2) hF) (fun hF => n6 hF))).le d10).ch h10_7 (fun h => n3 (oI h)))
    refine E.retG1 rfl rfl ?_
    exact ⟨L26, .inr (.inr (.inr ⟨hok, hk3_6, (by omega), rfl, ⟨(by rw [giveO_len, giveO_len]; have hh := f28; rw [Int.add_zero] at hh; exact hh), (by rw [giveO_len, giveO_len]; exact f27), b10_7, f29, n1, n2, n3, n4, n5, n6⟩⟩))⟩
   have f30 := (hS0.le (h0_0.trans (h1_2.trans (h1_6.trans d3))))
   refine G.r rfl (.as (.lookup2 (key := s.ch) underlying97 kint z60 rfl rfl f30) (by rw [hk3_6] <;> rfl)) ?_
   refine G.run 1 rfl ?_
   refine G.a rfl (.extract (v := .agg (seatV vhk3_6).toArray) rfl rfl) ?_
   refine G.run 1 rfl ?_
   refine G.ef rfl rfl rfl rfl rfl ?_
   refine Ef.allocA z60 ?_
   intro g3_10_1 w3_10_1 hg3_10_1 b3_10_1 h3_10_1
   refine ⟨fun _ => h3_10_1, ?_⟩
   have L31 := L5.le h3_10_1
   have b3_10_1 : Blk w3_10_1 g3_10_1 60 (seatV noSeat).toArray := b3_10_1
   refine G.ef0 rfl rfl rfl rfl ?_
   refine Ef.storeAll sz60 (by rfl) rfl rfl b3_10_1 (by simp only [List.size_toArray, seatV_row.len]) (seatV_row.one vhk3_6) ?_
   intro w3_11_1 b3_11_1 h3_11_1
   refine noT (by kernel_rfl) ?_
   have b3_11_1 : Blk w3_11_1 g3_10_1 60 (seatV vhk3_6).toArray := b3_11_1
   have L32 : ChP w w3_11_1 (LF gp gs gh A c) := L31.ch h3_11_1 (fun i hi hlt => by cases hi; exact absurd hlt (by have := L5.size; have := hg3_10_1; omega))
   refine G.run 1 rfl (G.nil (E.thenN (WC.sr (W.run 1 rfl (W.nx (WC.condT rfl (WC.sr (W.run 1 rfl (W.nx (WC.ret (E.thenR ?_)))))))))))
   have f33 := ((hO0.le (h0_0.trans (h1_2.trans (h1_6.trans (d3.trans h3_10_1))))).ch h3_11_1 (fun q hq => by cases hq; exact (fun he => by have := (hO0.row he).2; have := h0_0.size; have := h1_2.size; have := h1_6.size; have := d3.size; omega)))
   have f34 := ((f6.le h3_10_1).ch h3_11_1 (fun h => (show g3_10_1 ≠ gp from by have := f6.lt; omega) (oI h)))
   have f35 := ((f30.le h3_10_1).ch h3_11_1 (fun h => (show g3_10_1 ≠ gs from by have := f30.lt; omega) (oI h)))
   have f36 := ((hH0.le (h0_0.trans (h1_2.trans (h1_6.trans (d3.trans h3_10_1))))).ch h3_11_1 (fun h => (show g3_10_1 ≠ gh from by have := hH0.lt; have := h0_0.size; have := h1_2.size; have := h1_6.size; have := d3.size; omega) (oI h)))
   refine E.retG1 rfl rfl ?_
   exact ⟨L32, .inr (.inl ⟨hok, ⟨_, hk3_6⟩, rfl, ⟨f34, f33, f35, f36, n1, n2, n3, n4, n5, n6⟩⟩)⟩
  refine WC.condY rfl (congrArg not ((Bool.eq_false_iff.2 c0))) ?_
  refine WC.sr (W.run 1 rfl (W.nx (WC.ret (E.thenR ?_))))
  have f37 := (hO0.le (h0_0.trans (h1_2.trans h1_6)))
  have f38 := (hp0.le (h0_0.trans (h1_2.trans h1_6)))
  have f39 := (hS0.le (h0_0.trans (h1_2.trans h1_6)))
  have f40 := (hH0.le (h0_0.trans (h1_2.trans h1_6)))
  refine E.retG1 rfl rfl ?_
  exact ⟨L4, .inl ⟨(fun h => by first | (exact absurd (hbm1_2.2 h.1) (by assumption)) | (exact absurd (coin_iff.2 h.2) (by assumption))), rfl, ⟨f38, f37, f39, f40, n1, n2, n3, n4, n5, n6⟩⟩⟩
 refine W.a (.dec (.move rfl) (congrArg not ((Bool.eq_false_iff.2 q1_4)))) ?_
 refine W.run 4 rfl (W.nx (WC.condT rfl (WC.sr (W.run 1 rfl (W.nx (WC.ret (E.thenR ?_)))))))
 have f41 := (hO0.le (h0_0.trans h1_2))
 have f42 := (hp0.le (h0_0.trans h1_2))
 have f43 := (hS0.le (h0_0.trans h1_2))
 have f44 := (hH0.le (h0_0.trans h1_2))
 refine E.retG1 rfl rfl ?_
 exact ⟨L3, .inl ⟨(fun h => by first | (exact absurd (hbm1_2.2 h.1) (by assumption)) | (exact absurd (coin_iff.2 h.2) (by assumption))), rfl, ⟨f42, f41, f43, f44, n1, n2, n3, n4, n5, n6⟩⟩⟩
end Go.Proofs.YtgpaekbdbpkogaaGreat

namespace Go.Proofs.YtgpaekbdbpkogaaGreat
open Tryz
open Go Go.Sx Go.Num Go.Gsp Go.Lsp
set_option maxRecDepth 20000
theorem stay_i {x : Int} (w : World) : (Instr.keyThatStays (ikf x) (ikf x)).run prog w = .ok (ikf x) w := by
  have h : Instr.sameBits 10000 (.int .i64 x) (.int .i64 x) = true := by simp [Instr.sameBits]
  unfold ikf
  simp [Instr.keyThatStays, h]
theorem lfree_ok {gp gs gh c cs ck : Nat} {A : Option Addr} {own : List Int} {ls : SM} {lh : HM} {lost : Int} (ch : Int) (w : World) (hL : LedL w gp gs gh A c cs ck own ls lh lost) (hb : ∀ x ∈ lh, 0 <= x.2.2.am) (ht0 : heldL lh ch 0 <= 1125899906842624) (ht1 : heldL lh ch 1 <= 1125899906842624) : Calls prog 49 #[.pointer (some ⟨gp, 0, none⟩), .int .i64 (ch)] w fun r w' => r = .returned (.bool (decide (heldL lh ch 0 + heldL lh ch 1 = 0))) /\ Le w w' := by
 have e0 : 0 <= heldL lh ch 0 := sumF_nonneg (heldF_nn hb)
 have e1 : 0 <= heldL lh ch 1 := sumF_nonneg (heldF_nn hb)
 refine enter func49 rfl rfl ?_
 have L0 := Le.refl w
 refine WC.sr (W.run 1 rfl (W.nx (WC.sr (W.run 2 rfl ?_))))
 refine W.cl go22 rfl rfl (lheld_ok ch 0 w (hL.le L0) hb (by omega)) ?_
 rintro _ w1_2 ⟨rfl, h1_2⟩
 have L1 := L0.trans h1_2
 refine W.run 2 rfl ?_
 refine W.cl go22 rfl rfl (lheld_ok ch 1 w1_2 (hL.le L1) hb (by omega)) ?_
 rintro _ w1_5 ⟨rfl, h1_5⟩
 have L2 := L1.trans h1_5
 refine W.a (.add rfl rfl (by omega)) ?_
 refine W.run 2 rfl (W.nx (WC.ret ?_))
 refine E.retG1 rfl rfl ?_
 exact ⟨rfl, L2⟩

theorem loffer_ok {gp gs gh c cs ck : Nat} {A : Option Addr} {own : List Int} {ls : SM} {lh : HM} {lost : Int} (ch side id am : Int) (pt : Nat) (w : World) (hL : LedL w gp gs gh A c cs ck own ls lh lost) (hpt : pt < 18446744073709551616) (hw : ∀ x ∈ ls, ∀ i, 0 <= x.2.2.h i /\ x.2.2.h i <= 1125899906842624) : Calls prog 11 #[.pointer (some ⟨gp, 0, none⟩), .int .i64 (ch), .int .i64 (side), .int .i64 (id), .int .i64 (am), .int .u64 (((pt : Nat) : Int))] w fun r w' => ChP w w' (LF gp gs gh A c) /\ ((¬ offerOk side id am pt /\ r = .returned (.int .i64 1) /\ LedL w' gp gs gh A c cs ck own ls lh lost) \/ (offerOk side id am pt /\ getG ch ls = none /\ r = .returned (.int .i64 5) /\ LedL w' gp gs gh A c cs ck own ls lh lost) \/ (offerOk side id am pt /\ ∃ s, getG ch ls = some s /\ ((∃ h, getG (⟨ch, side, id⟩ : Spot) lh = some h /\ r = .returned (.int .i64 4) /\ LedL w' gp gs gh A c cs ck own ls lh lost) \/ (getG (⟨ch, side, id⟩ : Spot) lh = none /\ ((s.h side.toNat < am /\ r = .returned (.int .i64 8) /\ LedL w' gp gs gh A c cs ck own ls lh lost) \/ (¬ s.h side.toNat < am /\ r = .returned (.int .i64 0) /\ LedL w' gp gs gh A c cs (ck + 1) own (updM ch (s.setH side.toNat (s.h side.toNat - am)) ls) (lh ++ [(ck, (⟨ch, side, id⟩ : Spot), ⟨am, pt⟩)]) lost)))))) := by
 have hp0 := hL.hp
 have hO0 := hL.hO
 have hS0 := hL.hS
 have hH0 := hL.hH
 have n1 := hL.ps
 have n2 := hL.ph
 have n3 := hL.sh
 have n4 := hL.op
 have n5 := hL.os
 have n6 := hL.oh
 refine enter func11 rfl rfl ?_
 have L0 := ChP.refl w (LF gp gs gh A c)
 refine WC.sr (W.run 1 rfl (W.nx (WC.seq (WC.sr (W.run 2 rfl ?_)))))
 by_cases q1_2 : side < 0
 ·refine W.dt q1_2 rfl rfl (W.run 25 rfl (W.nx (WC.condT rfl (WC.sr (W.run 1 rfl (W.nx (WC.ret (E.thenR ?_))))))))
  refine E.retG1 rfl rfl ?_
  exact ⟨L0, .inl ⟨(fun h => by obtain ⟨h1, h2, h3, h4, h5⟩ := h; first | omega | (exact absurd (coin_iff.2 ⟨by omega, h3.2⟩) (by assumption)) | (exact absurd h5 (by assumption)) | (apply h4; omega)), rfl, ⟨hp0, hO0, hS0, hH0, n1, n2, n3, n4, n5, n6⟩⟩⟩
 refine W.df q1_2 rfl rfl (W.run 3 rfl ?_)
 by_cases q1_6 : 1 < side
 ·refine W.dt q1_6 rfl rfl (W.run 21 rfl (W.nx (WC.condT rfl (WC.sr (W.run 1 rfl (W.nx (WC.ret (E.thenR ?_))))))))
  refine E.retG1 rfl rfl ?_
  exact ⟨L0, .inl ⟨(fun h => by obtain ⟨h1, h2, h3, h4, h5⟩ := h; first | omega | (exact absurd (coin_iff.2 ⟨by omega, h3.2⟩) (by assumption)) | (exact absurd h5 (by assumption)) | (apply h4; omega)), rfl, ⟨hp0, hO0, hS0, hH0, n1, n2, n3, n4, n5, n6⟩⟩⟩
 refine W.df q1_6 rfl rfl (W.run 3 rfl ?_)
 by_cases q1_10 : id < 1
 ·refine W.dt q1_10 rfl rfl (W.run 17 rfl (W.nx (WC.condT rfl (WC.sr (W.run 1 rfl (W.nx (WC.ret (E.thenR ?_))))))))
  refine E.retG1 rfl rfl ?_
  exact ⟨L0, .inl ⟨(fun h => by obtain ⟨h1, h2, h3, h4, h5⟩ := h; first | omega | (exact absurd (coin_iff.2 ⟨by omega, h3.2⟩) (by assumption)) | (exact absurd h5 (by assumption)) | (apply h4; omega)), rfl, ⟨hp0, hO0, hS0, hH0, n1, n2, n3, n4, n5, n6⟩⟩⟩
 refine W.df q1_10 rfl rfl (W.run 3 rfl ?_)
 by_cases q1_14 : am < 1
 ·refine W.dt q1_14 rfl rfl (W.run 13 rfl (W.nx (WC.condT rfl (WC.sr (W.run 1 rfl (W.nx (WC.ret (E.thenR ?_))))))))
  refine E.retG1 rfl rfl ?_
  exact ⟨L0, .inl ⟨(fun h => by obtain ⟨h1, h2, h3, h4, h5⟩ := h; first | omega | (exact absurd (coin_iff.2 ⟨by omega, h3.2⟩) (by assumption)) | (exact absurd h5 (by assumption)) | (apply h4; omega)), rfl, ⟨hp0, hO0, hS0, hH0, n1, n2, n3, n4, n5, n6⟩⟩⟩
 refine W.df q1_14 rfl rfl (W.run 1 rfl ?_)
 refine W.efg rfl rfl rfl (rfl) rfl rfl ?_
 refine Ef.call go36 rfl rfl (coin_ok am w) ?_
 rintro _ w1_16 ⟨rfl, h1_16⟩
 refine ⟨_, rfl, ?_⟩
 have L1 := L0.le h1_16
 refine W.run 2 rfl ?_
 by_cases q1_19 : (coinL am) = true
 ·refine W.a (.dec (.move rfl) (congrArg not (q1_19))) ?_
  refine W.run 3 rfl ?_
  by_cases q1_23 : ((pt : Nat) : Int) = 1
  ·refine W.dt q1_23 rfl rfl (W.run 4 rfl (W.nx (WC.condT rfl (WC.sr (W.run 1 rfl (W.nx (WC.ret (E.thenR ?_))))))))
   have f2 := (hp0.le h1_16)
   have f3 := (hO0.le h1_16)
   have f4 := (hS0.le h1_16)
   have f5 := (hH0.le h1_16)
   refine E.retG1 rfl rfl ?_
   exact ⟨L1, .inl ⟨(fun h => by obtain ⟨h1, h2, h3, h4, h5⟩ := h; first | omega | (exact absurd (coin_iff.2 ⟨by omega, h3.2⟩) (by assumption)) | (exact absurd h5 (by assumption)) | (apply h4; omega)), rfl, ⟨f2, f3, f4, f5, n1, n2, n3, n4, n5, n6⟩⟩⟩
  refine W.df q1_23 rfl rfl (W.run 1 rfl ?_)
  refine W.efg rfl rfl rfl (rfl) rfl rfl ?_
  refine Ef.call go45 rfl rfl (pright_ok pt hpt w1_16) ?_
  rintro _ w1_25 ⟨rfl, h1_25⟩
  refine ⟨_, rfl, ?_⟩
  have L6 := L1.le h1_25
  refine W.run 2 rfl (W.nx ?_)
  by_cases c0 : (right pt) = true
  ·refine WC.condN rfl (congrArg not (c0)) ?_
   have hok : offerOk side id am pt := ⟨by omega, by omega, ⟨by omega, (coin_iff.1 (by assumption)).2⟩, by omega, by assumption⟩
   have hok2 := hok
   obtain ⟨o1, o2, o3, o4, o5⟩ := hok2
   refine WC.sn (WC.sr (W.run 1 rfl ?_))
   refine W.a (.nilCheck rfl) ?_
   refine W.a (.field0 fa100_1 rfl) ?_
   have f7 := (hp0.le (h1_16.trans h1_25))
   refine W.r (.loadB (v := .map (some gs)) na97 rfl f7 rfl) ?_
   refine W.run 1 rfl ?_
   rcases optG (getG ch ls) with hk3_5 | ⟨vhk3_5, hk3_5⟩
   ·have f8 := (hS0.le (h1_16.trans h1_25))
    refine W.r (.as (.lookup2 (key := ch) underlying97 kint z60 rfl rfl f8) (by rw [hk3_5] <;> rfl)) ?_
    refine W.run 1 rfl ?_
    refine W.a (.extract (v := .agg (seatV noSeat).toArray) rfl rfl) ?_
    refine W.run 1 rfl (W.ef rfl rfl rfl ?_)
    refine Ef.allocA z60 ?_
    intro g3_9 w3_9 hg3_9 b3_9 h3_9
    have L9 := L6.le h3_9
    have b3_9 : Blk w3_9 g3_9 60 (seatV noSeat).toArray := b3_9
    refine W.ef0 rfl rfl ?_
    refine Ef.storeAll sz60 (by rfl) rfl rfl b3_9 (by simp only [List.size_toArray, seatV_row.len]) (seatV_row.one noSeat) ?_
    intro w3_10 b3_10 h3_10
    have L10 : ChP w w3_10 (LF gp gs gh A c) := L9.ch h3_10 (fun i hi hlt => by cases hi; exact absurd hlt (by have := L6.size; have := hg3_9; omega))
    refine W.run 1 rfl (W.nx (WC.seq (WC.sr (W.run 2 rfl (W.nx (WC.condT rfl (WC.sr (W.run 1 rfl (W.nx (WC.ret (E.thenR ?_)))))))))))
    have f11 := ((f7.le h3_9).ch h3_10 (fun h => (show g3_9 ≠ gp from by have := f7.lt; omega) (oI h)))
    have f12 := ((hO0.le (h1_16.trans (h1_25.trans h3_9))).ch h3_10 (fun q hq => by cases hq; exact (fun he => by have := (hO0.row he).2; have := h1_16.size; have := h1_25.size; omega)))
    have f13 := ((f8.le h3_9).ch h3_10 (fun h => (show g3_9 ≠ gs from by have := f8.lt; omega) (oI h)))
    have f14 := ((hH0.le (h1_16.trans (h1_25.trans h3_9))).ch h3_10 (fun h => (show g3_9 ≠ gh from by have := hH0.lt; have := h1_16.size; have := h1_25.size; omega) (oI h)))
    refine E.retG1 rfl rfl ?_
    exact ⟨L10, .inr (.inl ⟨hok, hk3_5, rfl, ⟨f11, f12, f13, f14, n1, n2, n3, n4, n5, n6⟩⟩)⟩
   obtain ⟨bh, hbh⟩ := getG_mem hk3_5
   have hsw : 0 <= vhk3_5.h side.toNat /\ vhk3_5.h side.toNat <= 1125899906842624 := hw _ hbh side.toNat
   have f15 := (hS0.le (h1_16.trans h1_25))
   refine W.r (.as (.lookup2 (key := ch) underlying97 kint z60 rfl rfl f15) (by rw [hk3_5] <;> rfl)) ?_
   refine W.run 1 rfl ?_
   refine W.a (.extract (v := .agg (seatV vhk3_5).toArray) rfl rfl) ?_
   refine W.run 1 rfl (W.ef rfl rfl rfl ?_)
   refine Ef.allocA z60 ?_
   intro g3_9_1 w3_9_1 hg3_9_1 b3_9_1 h3_9_1
   have L16 := L6.le h3_9_1
   have b3_9_1 : Blk w3_9_1 g3_9_1 60 (seatV noSeat).toArray := b3_9_1
   refine W.ef0 rfl rfl ?_
   refine Ef.storeAll sz60 (by rfl) rfl rfl b3_9_1 (by simp only [List.size_toArray, seatV_row.len]) (seatV_row.one vhk3_5) ?_
   intro w3_10_1 b3_10_1 h3_10_1
   have b3_10_1 : Blk w3_10_1 g3_9_1 60 (seatV vhk3_5).toArray := b3_10_1
   have L17 : ChP w w3_10_1 (LF gp gs gh A c) := L16.ch h3_10_1 (fun i hi hlt => by cases hi; exact absurd hlt (by have := L6.size; have := hg3_9_1; omega))
   refine W.run 1 rfl (W.nx (WC.seq (WC.sr (W.run 2 rfl (W.nx (WC.condF rfl (WC.sn (WC.sr (W.run 3 rfl ?_)))))))))
   refine W.a (.buildP (placeV (⟨ch, side, id⟩ : Spot)) pl114 z114 rfl rfl) ?_
   refine W.ef rfl rfl rfl ?_
   refine Ef.allocA z114 ?_
   intro g6_4 w6_4 hg6_4 b6_4 h6_4
   have L18 := L17.le h6_4
   have b6_4 : Blk w6_4 g6_4 114 (placeV noSpot).toArray := b6_4
   refine W.ef0 rfl rfl ?_
   refine Ef.storeAll sz114 (by rfl) rfl rfl b6_4 (by simp only [List.size_toArray, placeV_row.len]) (placeV_row.one (⟨ch, side, id⟩ : Spot)) ?_
   intro w6_5 b6_5 h6_5
   have b6_5 : Blk w6_5 g6_4 114 (placeV (⟨ch, side, id⟩ : Spot)).toArray := b6_5
   have L19 : ChP w w6_5 (LF gp gs gh A c) := L18.ch h6_5 (fun i hi hlt => by cases hi; exact absurd hlt (by have := L17.size; have := hg6_4; omega))
   refine W.nx (WC.seq (WC.seq ?_))
   refine WC.draw [0, 1, 2, 3, 4, 5, 6, 7, 8, 9, 10, 11] mixed (by kernel_rfl) ?_
   intro w7 d7
   have L20 := L19.le d7
   refine G.run 1 rfl ?_
   refine G.a rfl (.nilCheck rfl) ?_
   refine G.a rfl (.field0 fa100_2 rfl) ?_
   have f21 := (((((f7.le h3_9_1).ch h3_10_1 (fun h => (show g3_9_1 ≠ gp from by have := f7.lt; omega) (oI h))).le h6_4).ch h6_5 (fun h => (show g6_4 ≠ gp from by have := f7.lt; have := h3_9_1.size; have := h3_10_1.size; omega) (oI h))).le d7)
   refine G.r rfl (.loadB (v := .map (some gh)) na98 rfl f21 rfl) ?_
   have f22 := (b6_5.le d7)
   refine G.r rfl (.loadAll ag114 (by rfl) rfl f22) ?_
   rcases optG (getG (⟨ch, side, id⟩ : Spot) lh) with hk7_5 | ⟨vhk7_5, hk7_5⟩
   ·have f23 := (((((hH0.le (h1_16.trans (h1_25.trans h3_9_1))).ch h3_10_1 (fun h => (show g3_9_1 ≠ gh from by have := hH0.lt; have := h1_16.size; have := h1_25.size; omega) (oI h))).le h6_4).ch h6_5 (fun h => (show g6_4 ≠ gh from by have := hH0.lt; have := h1_16.size; have := h1_25.size; have := h3_9_1.size; have := h3_10_1.size; omega) (oI h))).le d7)
    refine G.r rfl (.as (.lookup2 (key := (⟨ch, side, id⟩ : Spot)) underlying98 kplace z116 rfl rfl f23) (by rw [hk7_5] <;> rfl)) ?_
    refine G.run 1 rfl ?_
    refine G.a rfl (.extract (v := .agg (holdV noHold).toArray) rfl rfl) ?_
    refine G.run 1 rfl ?_
    refine G.ef rfl rfl rfl rfl rfl ?_
    refine Ef.allocA z116 ?_
    intro g7_9 w7_9 hg7_9 b7_9 h7_9
    refine ⟨fun _ => h7_9, ?_⟩
    have L24 := L20.le h7_9
    have b7_9 : Blk w7_9 g7_9 116 (holdV noHold).toArray := b7_9
    refine G.ef0 rfl rfl rfl rfl ?_
    refine Ef.storeAll sz116 (by rfl) rfl rfl b7_9 (by simp only [List.size_toArray, holdV_row.len]) (holdV_row.one noHold) ?_
    intro w7_10 b7_10 h7_10
    refine noT (by kernel_rfl) ?_
    have L25 : ChP w w7_10 (LF gp gs gh A c) := L24.ch h7_10 (fun i hi hlt => by cases hi; exact absurd hlt (by have := L20.size; have := hg7_9; omega))
    refine G.run 1 rfl (G.nil (E.thenN (WC.sr (W.run 1 rfl (W.nx (WC.condF rfl (WC.sn (WC.seq (WC.sr (W.run 1 rfl ?_))))))))))
    refine W.a (.field0 fa60_2 rfl) ?_
    refine W.a (.idxAo ((side).toNat) underlying48 sz3 rfl rfl (by omega) (by omega)) ?_
    have f26 := ((((b3_10_1.le h6_4).ch h6_5 (fun h => (show g6_4 ≠ g3_9_1 from by have := b3_10_1.lt; omega) (oI h))).le (d7.trans h7_9)).ch h7_10 (fun h => (show g7_9 ≠ g3_9_1 from by have := b3_10_1.lt; have := h6_4.size; have := h6_5.size; have := d7.size; omega) (oI h)))
    refine W.r (.loadB (v := .int .i64 ((vhk3_5.h ((side).toNat)))) na3 rfl f26 (seatH_at vhk3_5 (by omega))) ?_
    refine W.run 2 rfl (W.nx ?_)
    by_cases c3 : (vhk3_5.h ((side).toNat)) < am
    ·refine WC.condY rfl (decide_eq_true c3) ?_
     refine WC.sr (W.run 1 rfl (W.nx (WC.ret (E.thenR ?_))))
     have f27 := ((f21.le h7_9).ch h7_10 (fun h => (show g7_9 ≠ gp from by have := f21.lt; omega) (oI h)))
     have f28 := ((((((hO0.le (h1_16.trans (h1_25.trans h3_9_1))).ch h3_10_1 (fun q hq => by cases hq; exact (fun he => by have := (hO0.row he).2; have := h1_16.size; have := h1_25.size; omega))).le h6_4).ch h6_5 (fun q hq => by cases hq; exact (fun he => by have := (hO0.row he).2; have := h1_16.size; have := h1_25.size; have := h3_9_1.size; have := h3_10_1.size; omega))).le (d7.trans h7_9)).ch h7_10 (fun q hq => by cases hq; exact (fun he => by have := (hO0.row he).2; have := h1_16.size; have := h1_25.size; have := h3_9_1.size; have := h3_10_1.size; have := h6_4.size; have := h6_5.size; have := d7.size; omega)))
     have f29 := ((((((f15.le h3_9_1).ch h3_10_1 (fun h => (show g3_9_1 ≠ gs from by have := f15.lt; omega) (oI h))).le h6_4).ch h6_5 (fun h => (show g6_4 ≠ gs from by have := f15.lt; have := h3_9_1.size; have := h3_10_1.size; omega) (oI h))).le (d7.trans h7_9)).ch h7_10 (fun h => (show g7_9 ≠ gs from by have := f15.lt; have := h3_9_1.size; have := h3_10_1.size; have := h6_4.size; have := h6_5.size; have := d7.size; omega) (oI h)))
     have f30 := ((f23.le h7_9).ch h7_10 (fun h => (show g7_9 ≠ gh from by have := f23.lt; omega) (oI h)))
     refine E.retG1 rfl rfl ?_
     exact ⟨L25, .inr (.inr ⟨hok, _, hk3_5, .inr ⟨hk7_5, .inl ⟨c3, rfl, ⟨f27, f28, f29, f30, n1, n2, n3, n4, n5, n6⟩⟩⟩⟩)⟩
    refine WC.condN rfl (decide_eq_false c3) ?_
    refine WC.sn (WC.sr (W.run 1 rfl ?_))
    refine W.a (.field0 fa60_2 rfl) ?_
    refine W.a (.idxAo ((side).toNat) underlying48 sz3 rfl rfl (by omega) (by omega)) ?_
    refine W.r (.loadB (v := .int .i64 ((vhk3_5.h ((side).toNat)))) na3 rfl f26 (seatH_at vhk3_5 (by omega))) ?_
    refine W.run 1 rfl ?_
    refine W.a (.sub rfl rfl (by omega)) ?_
    refine W.a (.field0 fa60_2 rfl) ?_
    refine W.a (.idxAo ((side).toNat) underlying48 sz3 rfl rfl (by omega) (by omega)) ?_
    refine W.ef0 rfl rfl ?_
    refine Ef.store sz3 rfl rfl f26 (by simp [seatV_row.len, -List.getD_eq_getElem?_getD]; omega) rfl ?_
    intro w12_8 b12_8 h12_8
    have b12_8 : Blk w12_8 g3_9_1 60 (seatV (vhk3_5.setH ((side).toNat) ((vhk3_5.h ((side).toNat)) - am))).toArray := b12_8.cast (seatH_set vhk3_5 ((vhk3_5.h ((side).toNat)) - am) (by omega))
    have L31 : ChP w w12_8 (LF gp gs gh A c) := L25.ch h12_8 (fun i hi hlt => by cases hi; exact absurd hlt (by have := L6.size; have := hg3_9_1; omega))
    refine W.nx (WC.seq ?_)
    refine WC.drawS (fun w13 w' => ChP w w' (LF gp gs gh A c) /\ Blk w' gp 100 #[.slice A own.length c, .map (some gs), .map (some gh), .int .i64 (lost)] /\ Blk w' g6_4 114 (placeV (⟨ch, side, id⟩ : Spot)).toArray /\ Blk w' g3_9_1 60 (seatV (vhk3_5.setH ((side).toNat) ((vhk3_5.h ((side).toNat)) - am))).toArray) [0, 1, 2, 3, 4, 5, 6, 7, 8, 9, 10, 11, 12, 13, 14, 15, 16, 17, 18, 19] mixed (by kernel_rfl) ?_
    intro w13 d13
    have L32 := L31.le d13
    have f33 := ((((f21.le h7_9).ch h7_10 (fun h => (show g7_9 ≠ gp from by have := f21.lt; omega) (oI h))).ch h12_8 (fun h => (show g3_9_1 ≠ gp from by have := f7.lt; omega) (oI h))).le d13)
    have f34 := ((((f22.le h7_9).ch h7_10 (fun h => (show g7_9 ≠ g6_4 from by have := f22.lt; omega) (oI h))).ch h12_8 (fun h => (show g3_9_1 ≠ g6_4 from by have := b3_10_1.lt; omega) (oI h))).le d13)
    have f35 := (b12_8.le d13)
    refine ⟨⟨L32, f33, f34, f35⟩, ?_⟩
    refine GS.any rfl rfl (.move rfl) rfl rfl rfl ?_
    refine GS.any rfl rfl (.nilCheck rfl) rfl rfl rfl ?_
    refine GS.any rfl rfl (.field0 fa100_1 rfl) rfl rfl rfl ?_
    refine GS.rd rfl rfl (fun w' hs => .loadB (v := .map (some gs)) na97 rfl hs.2.1 rfl) rfl rfl rfl ?_
    refine GS.any rfl rfl (.move rfl) rfl rfl rfl ?_
    refine GS.any rfl rfl (.move rfl) rfl rfl rfl ?_
    refine GS.any rfl rfl (.nilCheck rfl) rfl rfl rfl ?_
    refine GS.any rfl rfl (.field0 fa100_2 rfl) rfl rfl rfl ?_
    refine GS.rd rfl rfl (fun w' hs => .loadB (v := .map (some gh)) na98 rfl hs.2.1 rfl) rfl rfl rfl ?_
    refine GS.rd rfl rfl (fun w' hs => .loadAll ag114 (by rfl) rfl hs.2.2.1) rfl rfl rfl ?_
    refine GS.rd rfl rfl (fun w' hs => .loadAll ag60 (by rfl) rfl hs.2.2.2) rfl rfl rfl ?_
    refine GS.any rfl rfl (.move rfl) rfl rfl rfl ?_
    refine GS.any rfl rfl (.move rfl) rfl rfl rfl ?_
    refine GS.any rfl rfl (.buildP (holdV (⟨am, pt⟩)) pl116 z116 rfl rfl) rfl rfl rfl ?_
    have f36 := ((((((((f15.le h3_9_1).ch h3_10_1 (fun h => (show g3_9_1 ≠ gs from by have := f15.lt; omega) (oI h))).le h6_4).ch h6_5 (fun h => (show g6_4 ≠ gs from by have := f15.lt; have := h3_9_1.size; have := h3_10_1.size; omega) (oI h))).le (d7.trans h7_9)).ch h7_10 (fun h => (show g7_9 ≠ gs from by have := f15.lt; have := h3_9_1.size; have := h3_10_1.size; have := h6_4.size; have := h6_5.size; have := d7.size; omega) (oI h))).ch h12_8 (fun h => (show g3_9_1 ≠ gs from by have := f15.lt; omega) (oI h))).le d13)
    refine GS.ef rfl rfl rfl rfl rfl ?_
    refine Ef.mapEntryG (key := ch) underlying97 kint rfl rfl f36 stay_i hk3_5 ?_
    intro s13_14 w13_14 hs13_14 b13_14 h13_14
    have L37 : ChP w w13_14 (LF gp gs gh A c) := L32.ch h13_14 (fun i hi _ => by cases hi; exact Or.inr (Or.inl rfl))
    have f38 := (f33.ch h13_14 (fun h => (Ne.symm n1) (oI h)))
    have f39 := (f34.ch h13_14 (fun h => (show gs ≠ g6_4 from by have := f15.lt; have := h3_9_1.size; have := h3_10_1.size; omega) (oI h)))
    have f40 := (f35.ch h13_14 (fun h => (show gs ≠ g3_9_1 from by have := f15.lt; omega) (oI h)))
    refine ⟨⟨L37, f38, f39, f40⟩, ?_⟩
    refine GS.any rfl rfl (.extract (v := .int .i64 (((s13_14 : Nat) : Int))) rfl rfl) rfl rfl rfl ?_
    refine GS.ef0 rfl rfl rfl rfl ?_
    refine Ef.entryStoreG (key := ch) (u := (vhk3_5.setH ((side).toNat) ((vhk3_5.h ((side).toNat)) - am))) rfl rfl rfl b13_14 hs13_14 ?_
    intro w13_16 b13_16 h13_16
    have L41 : ChP w w13_16 (LF gp gs gh A c) := L37.ch h13_16 (fun i hi _ => by cases hi; exact Or.inr (Or.inl rfl))
    have f42 := (f38.ch h13_16 (fun h => (Ne.symm n1) (oI h)))
    have f43 := (f39.ch h13_16 (fun h => (show gs ≠ g6_4 from by have := f15.lt; have := h3_9_1.size; have := h3_10_1.size; omega) (oI h)))
    have f44 := (f40.ch h13_16 (fun h => (show gs ≠ g3_9_1 from by have := f15.lt; omega) (oI h)))
    refine ⟨⟨L41, f42, f43, f44⟩, ?_⟩
    have f45 := ((((((f23.le h7_9).ch h7_10 (fun h => (show g7_9 ≠ gh from by have := f23.lt; omega) (oI h))).ch h12_8 (fun h => (show g3_9_1 ≠ gh from by have := hH0.lt; have := h1_16.size; have := h1_25.size; omega) (oI h))).le d13).ch h13_14 (fun h => n3 (oI h))).ch h13_16 (fun h => n3 (oI h)))
    refine GS.ef rfl rfl rfl rfl rfl ?_
    refine Ef.mapEntryN (key := (⟨ch, side, id⟩ : Spot)) (z := noHold) underlying98 kplace z116 rfl rfl f45 hk7_5 ?_
    intro w13_17 b13_17 h13_17
    have L46 : ChP w w13_17 (LF gp gs gh A c) := L41.ch h13_17 (fun i hi _ => by cases hi; exact Or.inr (Or.inr (Or.inl rfl)))
    have f47 := (f42.ch h13_17 (fun h => (Ne.symm n2) (oI h)))
    have f48 := (f43.ch h13_17 (fun h => (show gh ≠ g6_4 from by have := hH0.lt; have := h1_16.size; have := h1_25.size; have := h3_9_1.size; have := h3_10_1.size; omega) (oI h)))
    have f49 := (f44.ch h13_17 (fun h => (show gh ≠ g3_9_1 from by have := hH0.lt; have := h1_16.size; have := h1_25.size; omega) (oI h)))
    refine ⟨⟨L46, f47, f48, f49⟩, ?_⟩
    refine GS.any rfl rfl (.extract (v := .int .i64 (((ck : Nat) : Int))) rfl rfl) rfl rfl rfl ?_
    refine GS.ef0 rfl rfl rfl rfl ?_
    refine Ef.entryStoreG (key := (⟨ch, side, id⟩ : Spot)) (u := (⟨am, pt⟩)) rfl rfl rfl b13_17 (List.mem_append_right _ (List.mem_singleton.2 rfl)) ?_
    intro w13_19 b13_19 h13_19
    have L50 : ChP w w13_19 (LF gp gs gh A c) := L46.ch h13_19 (fun i hi _ => by cases hi; exact Or.inr (Or.inr (Or.inl rfl)))
    have f51 := (f47.ch h13_19 (fun h => (Ne.symm n2) (oI h)))
    have f52 := (f48.ch h13_19 (fun h => (show gh ≠ g6_4 from by have := hH0.lt; have := h1_16.size; have := h1_25.size; have := h3_9_1.size; have := h3_10_1.size; omega) (oI h)))
    have f53 := (f49.ch h13_19 (fun h => (show gh ≠ g3_9_1 from by have := hH0.lt; have := h1_16.size; have := h1_25.size; omega) (oI h)))
    refine ⟨⟨L50, f51, f52, f53⟩, ?_⟩
    refine GS.nil ?_
    refine E.thenN (WC.sr (W.run 1 rfl (W.nx (WC.ret ?_))))
    have f54 := ((((((((((((hO0.le (h1_16.trans (h1_25.trans h3_9_1))).ch h3_10_1 (fun q hq => by cases hq; exact (fun he => by have := (hO0.row he).2; have := h1_16.size; have := h1_25.size; omega))).le h6_4).ch h6_5 (fun q hq => by cases hq; exact (fun he => by have := (hO0.row he).2; have := h1_16.size; have := h1_25.size; have := h3_9_1.size; have := h3_10_1.size; omega))).le (d7.trans h7_9)).ch h7_10 (fun q hq => by cases hq; exact (fun he => by have := (hO0.row he).2; have := h1_16.size; have := h1_25.size; have := h3_9_1.size; have := h3_10_1.size; have := h6_4.size; have := h6_5.size; have := d7.size; omega))).ch h12_8 (fun q hq => by cases hq; exact (fun he => by have := (hO0.row he).2; have := h1_16.size; have := h1_25.size; omega))).le d13).ch h13_14 (fun q hq => by cases hq; exact n5)).ch h13_16 (fun q hq => by cases hq; exact n5)).ch h13_17 (fun q hq => by cases hq; exact n6)).ch h13_19 (fun q hq => by cases hq; exact n6))
    have f55 := ((b13_16.ch h13_17 (fun h => (Ne.symm n3) (oI h))).ch h13_19 (fun h => (Ne.symm n3) (oI h)))
    refine E.retG1 rfl rfl ?_
    exact ⟨L50, .inr (.inr ⟨hok, _, hk3_5, .inr ⟨hk7_5, .inr ⟨c3, rfl, ⟨f51, f54, f55, (by rw [<- updM_new (z := noHold) (getG_none.1 hk7_5)]; exact b13_19), n1, n2, n3, n4, n5, n6⟩⟩⟩⟩)⟩
   have f56 := (((((hH0.le (h1_16.trans (h1_25.trans h3_9_1))).ch h3_10_1 (fun h => (show g3_9_1 ≠ gh from by have := hH0.lt; have := h1_16.size; have := h1_25.size; omega) (oI h))).le h6_4).ch h6_5 (fun h => (show g6_4 ≠ gh from by have := hH0.lt; have := h1_16.size; have := h1_25.size; have := h3_9_1.size; have := h3_10_1.size; omega) (oI h))).le d7)
   refine G.r rfl (.as (.lookup2 (key := (⟨ch, side, id⟩ : Spot)) underlying98 kplace z116 rfl rfl f56) (by rw [hk7_5] <;> rfl)) ?_
   refine G.run 1 rfl ?_
   refine G.a rfl (.extract (v := .agg (holdV vhk7_5).toArray) rfl rfl) ?_
   refine G.run 1 rfl ?_
   refine G.ef rfl rfl rfl rfl rfl ?_
   refine Ef.allocA z116 ?_
   intro g7_9_1 w7_9_1 hg7_9_1 b7_9_1 h7_9_1
   refine ⟨fun _ => h7_9_1, ?_⟩
   have L57 := L20.le h7_9_1
   have b7_9_1 : Blk w7_9_1 g7_9_1 116 (holdV noHold).toArray := b7_9_1
   refine G.ef0 rfl rfl rfl rfl ?_
   refine Ef.storeAll sz116 (by rfl) rfl rfl b7_9_1 (by simp only [List.size_toArray, holdV_row.len]) (holdV_row.one vhk7_5) ?_
   intro w7_10_1 b7_10_1 h7_10_1
   refine noT (by kernel_rfl) ?_
   have b7_10_1 : Blk w7_10_1 g7_9_1 116 (holdV vhk7_5).toArray := b7_10_1
   have L58 : ChP w w7_10_1 (LF gp gs gh A c) := L57.ch h7_10_1 (fun i hi hlt => by cases hi; exact absurd hlt (by have := L20.size; have := hg7_9_1; omega))
   refine G.run 1 rfl (G.nil (E.thenN (WC.sr (W.run 1 rfl (W.nx (WC.condT rfl (WC.sr (W.run 1 rfl (W.nx (WC.ret (E.thenR ?_)))))))))))
   have f59 := ((f21.le h7_9_1).ch h7_10_1 (fun h => (show g7_9_1 ≠ gp from by have := f21.lt; omega) (oI h)))
   have f60 := ((((((hO0.le (h1_16.trans (h1_25.trans h3_9_1))).ch h3_10_1 (fun q hq => by cases hq; exact (fun he => by have := (hO0.row he).2; have := h1_16.size; have := h1_25.size; omega))).le h6_4).ch h6_5 (fun q hq => by cases hq; exact (fun he => by have := (hO0.row he).2; have := h1_16.size; have := h1_25.size; have := h3_9_1.size; have := h3_10_1.size; omega))).le (d7.trans h7_9_1)).ch h7_10_1 (fun q hq => by cases hq; exact (fun he => by have := (hO0.row he).2; have := h1_16.size; have := h1_25.size; have := h3_9_1.size; have := h3_10_1.size; have := h6_4.size; have := h6_5.size; have := d7.size; omega)))
   have f61 := ((((((f15.le h3_9_1).ch h3_10_1 (fun h => (show g3_9_1 ≠ gs from by have := f15.lt; omega) (oI h))).le h6_4).ch h6_5 (fun h => (show g6_4 ≠ gs from by have := f15.lt; have := h3_9_1.size; have := h3_10_1.size; omega) (oI h))).le (d7.trans h7_9_1)).ch h7_10_1 (fun h => (show g7_9_1 ≠ gs from by have := f15.lt; have := h3_9_1.size; have := h3_10_1.size; have := h6_4.size; have := h6_5.size; have := d7.size; omega) (oI h)))
   have f62 := ((f56.le h7_9_1).ch h7_10_1 (fun h => (show g7_9_1 ≠ gh from by have := f56.lt; omega) (oI h)))
   refine E.retG1 rfl rfl ?_
   exact ⟨L58, .inr (.inr ⟨hok, _, hk3_5, .inl ⟨_, hk7_5, rfl, ⟨f59, f60, f61, f62, n1, n2, n3, n4, n5, n6⟩⟩⟩)⟩
  refine WC.condY rfl (congrArg not ((Bool.eq_false_iff.2 c0))) ?_
  refine WC.sr (W.run 1 rfl (W.nx (WC.ret (E.thenR ?_))))
  have f63 := (hp0.le (h1_16.trans h1_25))
  have f64 := (hO0.le (h1_16.trans h1_25))
  have f65 := (hS0.le (h1_16.trans h1_25))
  have f66 := (hH0.le (h1_16.trans h1_25))
  refine E.retG1 rfl rfl ?_
  exact ⟨L6, .inl ⟨(fun h => by obtain ⟨h1, h2, h3, h4, h5⟩ := h; first | omega | (exact absurd (coin_iff.2 ⟨by omega, h3.2⟩) (by assumption)) | (exact absurd h5 (by assumption)) | (apply h4; omega)), rfl, ⟨f63, f64, f65, f66, n1, n2, n3, n4, n5, n6⟩⟩⟩
 refine W.a (.dec (.move rfl) (congrArg not ((Bool.eq_false_iff.2 q1_19)))) ?_
 refine W.run 8 rfl (W.nx (WC.condT rfl (WC.sr (W.run 1 rfl (W.nx (WC.ret (E.thenR ?_)))))))
 have f67 := (hp0.le h1_16)
 have f68 := (hO0.le h1_16)
 have f69 := (hS0.le h1_16)
 have f70 := (hH0.le h1_16)
 refine E.retG1 rfl rfl ?_
 exact ⟨L1, .inl ⟨(fun h => by obtain ⟨h1, h2, h3, h4, h5⟩ := h; first | omega | (exact absurd (coin_iff.2 ⟨by omega, h3.2⟩) (by assumption)) | (exact absurd h5 (by assumption)) | (apply h4; omega)), rfl, ⟨f67, f68, f69, f70, n1, n2, n3, n4, n5, n6⟩⟩⟩

theorem lend_ok {gp gs gh c n cs ck : Nat} {A : Option Addr} {ls : SM} {lh : HM} {lost : Int} {s : Seat} {h : Hold} (at_ : Spot) (j : Int) (w : World) (hp0 : Blk w gp 100 #[.slice A n c, .map (some gs), .map (some gh), .int .i64 (lost)]) (hS0 : MapG w ikf seatf gs ls cs) (hH0 : MapG w plf holdf gh lh ck) (n1 : gp ≠ gs) (n2 : gp ≠ gh) (n3 : gs ≠ gh) (hs : getG at_.ch ls = some s) (hh : getG at_ lh = some h) (hj : 0 <= j /\ j <= 1) (h1 : 0 <= s.h j.toNat /\ s.h j.toNat <= 1125899906842624) (h2 : 0 <= h.am /\ h.am <= 1125899906842624) : Calls prog 47 #[.pointer (some ⟨gp, 0, none⟩), .agg (placeV at_).toArray, .int .i64 (j)] w fun r w' => r = .returned (.tuple #[]) /\ MapG w' ikf seatf gs (updM at_.ch (s.setH j.toNat (s.h j.toNat + h.am)) ls) cs /\ MapG w' plf holdf gh (delM at_ lh) ck /\ ChP w w' (fun k => k = gs \/ k = gh) := by
 refine enter func47 rfl rfl ?_
 have L0 := ChP.refl w (fun k => k = gs \/ k = gh)
 refine WC.sr (W.ef rfl rfl rfl ?_)
 refine Ef.boxA rfl ?_
 intro g0_0 w0_0 hg0_0 b0_0 h0_0
 have L1 := L0.le h0_0
 have b0_0 : Blk w0_0 g0_0 114 (placeV at_).toArray := b0_0
 refine W.nx (WC.seq ?_)
 refine WC.draw [0, 1, 2, 3, 4, 5, 6, 7, 8] mixed (by kernel_rfl) ?_
 intro w1 d1
 have L2 := L1.le d1
 refine G.run 1 rfl ?_
 refine G.a rfl (.nilCheck rfl) ?_
 refine G.a rfl (.field0 fa100_1 rfl) ?_
 have f3 := (hp0.le (h0_0.trans d1))
 refine G.r rfl (.loadB (v := .map (some gs)) na97 rfl f3 rfl) ?_
 refine G.a rfl (.field0 fa114_0 rfl) ?_
 have f4 := (b0_0.le d1)
 refine G.r rfl (.loadB (v := .int .i64 (at_.ch)) na3 rfl f4 rfl) ?_
 have f5 := (hS0.le (h0_0.trans d1))
 refine G.r rfl (.as (.lookup1 (key := at_.ch) underlying97 kint z60 rfl rfl f5) (by rw [hs] <;> rfl)) ?_
 refine G.ef rfl rfl rfl rfl rfl ?_
 refine Ef.allocA z60 ?_
 intro g1_7 w1_7 hg1_7 b1_7 h1_7
 refine ⟨fun _ => h1_7, ?_⟩
 have L6 := L2.le h1_7
 have b1_7 : Blk w1_7 g1_7 60 (seatV noSeat).toArray := b1_7
 refine G.ef0 rfl rfl rfl rfl ?_
 refine Ef.storeAll sz60 (by rfl) rfl rfl b1_7 (by simp only [List.size_toArray, seatV_row.len]) (seatV_row.one s) ?_
 intro w1_8 b1_8 h1_8
 refine noT (by kernel_rfl) ?_
 have b1_8 : Blk w1_8 g1_7 60 (seatV s).toArray := b1_8
 have L7 : ChP w w1_8 (fun k => k = gs \/ k = gh) := L6.ch h1_8 (fun i hi hlt => by cases hi; exact absurd hlt (by have := L2.size; have := hg1_7; omega))
 refine G.nil (E.thenN (WC.seq ?_))
 refine WC.draw [0, 1, 2, 3, 4, 5, 6, 7, 8, 9, 10, 11, 12, 13, 14] mixed (by kernel_rfl) ?_
 intro w2 d2
 have L8 := L7.le d2
 refine G.run 1 rfl ?_
 refine G.a rfl (.field0 fa60_2 rfl) ?_
 refine G.a rfl (.idxAo ((j).toNat) underlying48 sz3 rfl rfl (by omega) (by omega)) ?_
 have f9 := (b1_8.le d2)
 refine G.r rfl (.loadB (v := .int .i64 ((s.h ((j).toNat)))) na3 rfl f9 (seatH_at s (by omega))) ?_
 refine G.run 1 rfl ?_
 refine G.a rfl (.nilCheck rfl) ?_
 refine G.a rfl (.field0 fa100_2 rfl) ?_
 have f10 := (((f3.le h1_7).ch h1_8 (fun h => (show g1_7 ≠ gp from by have := f3.lt; omega) (oI h))).le d2)
 refine G.r rfl (.loadB (v := .map (some gh)) na98 rfl f10 rfl) ?_
 have f11 := (((f4.le h1_7).ch h1_8 (fun h => (show g1_7 ≠ g0_0 from by have := f4.lt; omega) (oI h))).le d2)
 refine G.r rfl (.loadAll ag114 (by rfl) rfl f11) ?_
 have f12 := (((hH0.le (h0_0.trans (d1.trans h1_7))).ch h1_8 (fun h => (show g1_7 ≠ gh from by have := hH0.lt; have := h0_0.size; have := d1.size; omega) (oI h))).le d2)
 refine G.r rfl (.as (.lookup1 (key := at_) underlying98 kplace z116 rfl rfl f12) (by rw [hh] <;> rfl)) ?_
 refine G.a rfl (.field1 (v := .int .i64 (h.am)) underlying116 rfl na3 rfl rfl) ?_
 refine G.a rfl (.add rfl rfl (by omega)) ?_
 refine G.a rfl (.field0 fa60_2 rfl) ?_
 refine G.a rfl (.idxAo ((j).toNat) underlying48 sz3 rfl rfl (by omega) (by omega)) ?_
 refine G.ef0 rfl rfl rfl rfl ?_
 refine Ef.store sz3 rfl rfl f9 (by simp [seatV_row.len, -List.getD_eq_getElem?_getD]; omega) rfl ?_
 intro w2_14 b2_14 h2_14
 refine noT (by kernel_rfl) ?_
 have b2_14 : Blk w2_14 g1_7 60 (seatV (s.setH ((j).toNat) ((s.h ((j).toNat)) + h.am))).toArray := b2_14.cast (seatH_set s ((s.h ((j).toNat)) + h.am) (by omega))
 have L13 : ChP w w2_14 (fun k => k = gs \/ k = gh) := L8.ch h2_14 (fun i hi hlt => by cases hi; exact absurd hlt (by have := L2.size; have := hg1_7; omega))
 refine G.nil (E.thenN (WC.seq ?_))
 refine WC.draw [0, 1, 2, 3, 4, 5, 6, 7] mixed (by kernel_rfl) ?_
 intro w3 d3
 have L14 := L13.le d3
 refine G.run 1 rfl ?_
 refine G.a rfl (.nilCheck rfl) ?_
 refine G.a rfl (.field0 fa100_1 rfl) ?_
 have f15 := ((f10.ch h2_14 (fun h => (show g1_7 ≠ gp from by have := f3.lt; omega) (oI h))).le d3)
 refine G.r rfl (.loadB (v := .map (some gs)) na97 rfl f15 rfl) ?_
 refine G.a rfl (.field0 fa114_0 rfl) ?_
 have f16 := ((f11.ch h2_14 (fun h => (show g1_7 ≠ g0_0 from by have := f4.lt; omega) (oI h))).le d3)
 refine G.r rfl (.loadB (v := .int .i64 (at_.ch)) na3 rfl f16 rfl) ?_
 have f17 := (b2_14.le d3)
 refine G.r rfl (.loadAll ag60 (by rfl) rfl f17) ?_
 have f18 := (((((f5.le h1_7).ch h1_8 (fun h => (show g1_7 ≠ gs from by have := f5.lt; omega) (oI h))).le d2).ch h2_14 (fun h => (show g1_7 ≠ gs from by have := f5.lt; omega) (oI h))).le d3)
 refine G.ef0 rfl rfl rfl rfl ?_
 refine Ef.updateG (key := at_.ch) (u := (s.setH ((j).toNat) ((s.h ((j).toNat)) + h.am))) underlying97 kint rfl rfl rfl f18 stay_i (hs) ?_
 intro w3_7 b3_7 h3_7
 refine noT (by kernel_rfl) ?_
 have L19 : ChP w w3_7 (fun k => k = gs \/ k = gh) := L14.ch h3_7 (fun i hi _ => by cases hi; exact Or.inl rfl)
 refine G.nil (E.thenN ?_)
 refine WC.draw [0, 1, 2, 3, 4, 5] mixed (by kernel_rfl) ?_
 intro w4 d4
 have L20 := L19.le d4
 refine G.run 1 rfl ?_
 refine G.a rfl (.nilCheck rfl) ?_
 refine G.a rfl (.field0 fa100_2 rfl) ?_
 have f21 := ((f15.ch h3_7 (fun h => (Ne.symm n1) (oI h))).le d4)
 refine G.r rfl (.loadB (v := .map (some gh)) na98 rfl f21 rfl) ?_
 have f22 := ((f16.ch h3_7 (fun h => (show gs ≠ g0_0 from by have := hS0.lt; omega) (oI h))).le d4)
 refine G.r rfl (.loadAll ag114 (by rfl) rfl f22) ?_
 have f23 := ((((f12.ch h2_14 (fun h => (show g1_7 ≠ gh from by have := hH0.lt; have := h0_0.size; have := d1.size; omega) (oI h))).le d3).ch h3_7 (fun h => n3 (oI h))).le d4)
 refine G.ef0 rfl rfl rfl rfl ?_
 refine Ef.deleteG (key := at_) underlying98 kplace rfl rfl f23 ?_
 intro w4_5 b4_5 h4_5
 refine noT (by kernel_rfl) ?_
 have L24 : ChP w w4_5 (fun k => k = gs \/ k = gh) := L20.ch h4_5 (fun i hi _ => by cases hi; exact Or.inr rfl)
 refine G.nil (E.end_ ?_)
 have f25 := ((b3_7.le d4).ch h4_5 (fun h => (Ne.symm n3) (oI h)))
 refine E.ret0 rfl ?_
 exact ⟨rfl, f25, b4_5, L24⟩

theorem lsettle_ok {gp gs gh c cs ck : Nat} {A : Option Addr} {own : List Int} {ls : SM} {lh : HM} {lost : Int} (ch side id : Int) (sec : Nat) (w : World) (hL : LedL w gp gs gh A c cs ck own ls lh lost) (hw : ∀ x ∈ ls, ∀ i, 0 <= x.2.2.h i /\ x.2.2.h i <= 1125899906842624) (hv : ∀ x ∈ lh, (0 <= x.2.1.side /\ x.2.1.side <= 1) /\ (0 <= x.2.2.am /\ x.2.2.am <= 1125899906842624) /\ ∃ s, getG x.2.1.ch ls = some s) : Calls prog 13 #[.pointer (some ⟨gp, 0, none⟩), .int .i64 (ch), .int .i64 (side), .int .i64 (id), .int .u64 (((sec : Nat) : Int))] w fun r w' => ChP w w' (LF gp gs gh A c) /\ ((getG (⟨ch, side, id⟩ : Spot) lh = none /\ r = .returned (.int .i64 5) /\ LedL w' gp gs gh A c cs ck own ls lh lost) \/ ∃ h, getG (⟨ch, side, id⟩ : Spot) lh = some h /\ ((base sec ≠ h.pt /\ r = .returned (.int .i64 23) /\ LedL w' gp gs gh A c cs ck own ls lh lost) \/ (base sec = h.pt /\ r = .returned (.int .i64 0) /\ ∃ s, getG ch ls = some s /\ LedL w' gp gs gh A c cs ck own (updM ch (s.setH (1 - side).toNat (s.h (1 - side).toNat + h.am)) ls) (delM (⟨ch, side, id⟩ : Spot) lh) lost))) := by
 have hp0 := hL.hp
 have hO0 := hL.hO
 have hS0 := hL.hS
 have hH0 := hL.hH
 have n1 := hL.ps
 have n2 := hL.ph
 have n3 := hL.sh
 have n4 := hL.op
 have n5 := hL.os
 have n6 := hL.oh
 refine enter func13 rfl rfl ?_
 have L0 := ChP.refl w (LF gp gs gh A c)
 refine WC.sr (W.run 1 rfl (W.nx (WC.sr (W.run 3 rfl ?_))))
 refine W.a (.buildP (placeV (⟨ch, side, id⟩ : Spot)) pl114 z114 rfl rfl) ?_
 refine W.ef rfl rfl rfl ?_
 refine Ef.allocA z114 ?_
 intro g1_4 w1_4 hg1_4 b1_4 h1_4
 have L1 := L0.le h1_4
 have b1_4 : Blk w1_4 g1_4 114 (placeV noSpot).toArray := b1_4
 refine W.ef0 rfl rfl ?_
 refine Ef.storeAll sz114 (by rfl) rfl rfl b1_4 (by simp only [List.size_toArray, placeV_row.len]) (placeV_row.one (⟨ch, side, id⟩ : Spot)) ?_
 intro w1_5 b1_5 h1_5
 have b1_5 : Blk w1_5 g1_4 114 (placeV (⟨ch, side, id⟩ : Spot)).toArray := b1_5
 have L2 : ChP w w1_5 (LF gp gs gh A c) := L1.ch h1_5 (fun i hi hlt => by cases hi; exact absurd hlt (by have := L0.size; have := hg1_4; omega))
 refine W.nx (WC.seq ?_)
 refine WC.draw [0, 1, 2, 3, 4, 5, 6, 7, 8, 9, 10, 11] mixed (by kernel_rfl) ?_
 intro w2 d2
 have L3 := L2.le d2
 refine G.run 1 rfl ?_
 refine G.a rfl (.nilCheck rfl) ?_
 refine G.a rfl (.field0 fa100_2 rfl) ?_
 have f4 := (((hp0.le h1_4).ch h1_5 (fun h => (show g1_4 ≠ gp from by have := hp0.lt; omega) (oI h))).le d2)
 refine G.r rfl (.loadB (v := .map (some gh)) na98 rfl f4 rfl) ?_
 have f5 := (b1_5.le d2)
 refine G.r rfl (.loadAll ag114 (by rfl) rfl f5) ?_
 rcases optG (getG (⟨ch, side, id⟩ : Spot) lh) with hk2_5 | ⟨vhk2_5, hk2_5⟩
 ·have f6 := (((hH0.le h1_4).ch h1_5 (fun h => (show g1_4 ≠ gh from by have := hH0.lt; omega) (oI h))).le d2)
  refine G.r rfl (.as (.lookup2 (key := (⟨ch, side, id⟩ : Spot)) underlying98 kplace z116 rfl rfl f6) (by rw [hk2_5] <;> rfl)) ?_
  refine G.run 1 rfl ?_
  refine G.a rfl (.extract (v := .agg (holdV noHold).toArray) rfl rfl) ?_
  refine G.run 1 rfl ?_
  refine G.ef rfl rfl rfl rfl rfl ?_
  refine Ef.allocA z116 ?_
  intro g2_9 w2_9 hg2_9 b2_9 h2_9
  refine ⟨fun _ => h2_9, ?_⟩
  have L7 := L3.le h2_9
  have b2_9 : Blk w2_9 g2_9 116 (holdV noHold).toArray := b2_9
  refine G.ef0 rfl rfl rfl rfl ?_
  refine Ef.storeAll sz116 (by rfl) rfl rfl b2_9 (by simp only [List.size_toArray, holdV_row.len]) (holdV_row.one noHold) ?_
  intro w2_10 b2_10 h2_10
  refine noT (by kernel_rfl) ?_
  have L8 : ChP w w2_10 (LF gp gs gh A c) := L7.ch h2_10 (fun i hi hlt => by cases hi; exact absurd hlt (by have := L3.size; have := hg2_9; omega))
  refine G.run 1 rfl (G.nil (E.thenN (WC.seq (WC.block (WC.sr (W.run 3 rfl (W.nx (WC.condT rfl (WC.sr (W.run 1 rfl (W.nx (WC.ret (E.blkR (E.thenR ?_))))))))))))))
  have f9 := ((f4.le h2_9).ch h2_10 (fun h => (show g2_9 ≠ gp from by have := f4.lt; omega) (oI h)))
  have f10 := ((((hO0.le h1_4).ch h1_5 (fun q hq => by cases hq; exact (fun he => by have := (hO0.row he).2; omega))).le (d2.trans h2_9)).ch h2_10 (fun q hq => by cases hq; exact (fun he => by have := (hO0.row he).2; have := h1_4.size; have := h1_5.size; have := d2.size; omega)))
  have f11 := ((((hS0.le h1_4).ch h1_5 (fun h => (show g1_4 ≠ gs from by have := hS0.lt; omega) (oI h))).le (d2.trans h2_9)).ch h2_10 (fun h => (show g2_9 ≠ gs from by have := hS0.lt; have := h1_4.size; have := h1_5.size; have := d2.size; omega) (oI h)))
  have f12 := ((f6.le h2_9).ch h2_10 (fun h => (show g2_9 ≠ gh from by have := f6.lt; omega) (oI h)))
  refine E.retG1 rfl rfl ?_
  exact ⟨L8, .inl ⟨hk2_5, rfl, ⟨f9, f10, f11, f12, n1, n2, n3, n4, n5, n6⟩⟩⟩
 obtain ⟨bh, hbh⟩ := getG_mem hk2_5
 obtain ⟨hv1, hv2, sv, hsv⟩ := hv _ hbh
 simp only at hv1 hv2 hsv
 obtain ⟨bs, hbs⟩ := getG_mem hsv
 have hws := hw _ hbs
 simp only at hws
 have f13 := (((hH0.le h1_4).ch h1_5 (fun h => (show g1_4 ≠ gh from by have := hH0.lt; omega) (oI h))).le d2)
 refine G.r rfl (.as (.lookup2 (key := (⟨ch, side, id⟩ : Spot)) underlying98 kplace z116 rfl rfl f13) (by rw [hk2_5] <;> rfl)) ?_
 refine G.run 1 rfl ?_
 refine G.a rfl (.extract (v := .agg (holdV vhk2_5).toArray) rfl rfl) ?_
 refine G.run 1 rfl ?_
 refine G.ef rfl rfl rfl rfl rfl ?_
 refine Ef.allocA z116 ?_
 intro g2_9_1 w2_9_1 hg2_9_1 b2_9_1 h2_9_1
 refine ⟨fun _ => h2_9_1, ?_⟩
 have L14 := L3.le h2_9_1
 have b2_9_1 : Blk w2_9_1 g2_9_1 116 (holdV noHold).toArray := b2_9_1
 refine G.ef0 rfl rfl rfl rfl ?_
 refine Ef.storeAll sz116 (by rfl) rfl rfl b2_9_1 (by simp only [List.size_toArray, holdV_row.len]) (holdV_row.one vhk2_5) ?_
 intro w2_10_1 b2_10_1 h2_10_1
 refine noT (by kernel_rfl) ?_
 have b2_10_1 : Blk w2_10_1 g2_9_1 116 (holdV vhk2_5).toArray := b2_10_1
 have L15 : ChP w w2_10_1 (LF gp gs gh A c) := L14.ch h2_10_1 (fun i hi hlt => by cases hi; exact absurd hlt (by have := L3.size; have := hg2_9_1; omega))
 refine G.run 1 rfl (G.nil (E.thenN (WC.seq (WC.block (WC.sr (W.run 3 rfl (W.nx (WC.condF rfl (WC.seq ?_)))))))))
 refine WC.draw [0, 2, 3, 1, 4, 5] mixed (by kernel_rfl) ?_
 intro w5 d5
 have L16 := L15.le d5
 refine G.run 1 rfl ?_
 refine G.a rfl (.field0 fa116_1 rfl) ?_
 have f17 := (b2_10_1.le d5)
 refine G.r rfl (.loadB (v := .int .u64 (((vhk2_5.pt : Nat) : Int))) na35 rfl f17 rfl) ?_
 refine G.ef rfl rfl rfl rfl rfl ?_
 refine Ef.call go8 rfl rfl (base_ok sec w5) ?_
 rintro _ w5_1 ⟨rfl, h5_1⟩
 refine ⟨_, rfl, ?_⟩
 refine ⟨fun _ => h5_1, ?_⟩
 have L18 := L16.le h5_1
 refine G.run 2 rfl (G.nil (E.thenN ?_))
 by_cases c1 : ((base sec : Nat) : Int) ≠ ((vhk2_5.pt : Nat) : Int)
 ·refine WC.condY rfl (decide_eq_true c1) ?_
  refine WC.sr (W.run 1 rfl (W.nx (WC.ret (E.blkR (E.thenR ?_)))))
  have f19 := (((f4.le h2_9_1).ch h2_10_1 (fun h => (show g2_9_1 ≠ gp from by have := f4.lt; omega) (oI h))).le (d5.trans h5_1))
  have f20 := (((((hO0.le h1_4).ch h1_5 (fun q hq => by cases hq; exact (fun he => by have := (hO0.row he).2; omega))).le (d2.trans h2_9_1)).ch h2_10_1 (fun q hq => by cases hq; exact (fun he => by have := (hO0.row he).2; have := h1_4.size; have := h1_5.size; have := d2.size; omega))).le (d5.trans h5_1))
  have f21 := (((((hS0.le h1_4).ch h1_5 (fun h => (show g1_4 ≠ gs from by have := hS0.lt; omega) (oI h))).le (d2.trans h2_9_1)).ch h2_10_1 (fun h => (show g2_9_1 ≠ gs from by have := hS0.lt; have := h1_4.size; have := h1_5.size; have := d2.size; omega) (oI h))).le (d5.trans h5_1))
  have f22 := (((f13.le h2_9_1).ch h2_10_1 (fun h => (show g2_9_1 ≠ gh from by have := f13.lt; omega) (oI h))).le (d5.trans h5_1))
  refine E.retG1 rfl rfl ?_
  exact ⟨L18, .inr ⟨_, hk2_5, .inl ⟨(by intro e; apply c1; rw [e]), rfl, ⟨f19, f20, f21, f22, n1, n2, n3, n4, n5, n6⟩⟩⟩⟩
 refine WC.condN rfl (decide_eq_false c1) ?_
 refine WC.skip (E.blkN (E.thenN (WC.sr (W.run 1 rfl ?_))))
 have f23 := (((f5.le h2_9_1).ch h2_10_1 (fun h => (show g2_9_1 ≠ g1_4 from by have := f5.lt; omega) (oI h))).le (d5.trans h5_1))
 refine W.r (.loadAll ag114 (by rfl) rfl f23) ?_
 refine W.run 1 rfl ?_
 refine W.a (.sub rfl rfl (by omega)) ?_
 have f24 := (((f4.le h2_9_1).ch h2_10_1 (fun h => (show g2_9_1 ≠ gp from by have := f4.lt; omega) (oI h))).le (d5.trans h5_1))
 have f25 := (((((hS0.le h1_4).ch h1_5 (fun h => (show g1_4 ≠ gs from by have := hS0.lt; omega) (oI h))).le (d2.trans h2_9_1)).ch h2_10_1 (fun h => (show g2_9_1 ≠ gs from by have := hS0.lt; have := h1_4.size; have := h1_5.size; have := d2.size; omega) (oI h))).le (d5.trans h5_1))
 have f26 := (((f13.le h2_9_1).ch h2_10_1 (fun h => (show g2_9_1 ≠ gh from by have := f13.lt; omega) (oI h))).le (d5.trans h5_1))
 refine W.cl go47 rfl rfl (lend_ok (s := sv) (h := vhk2_5) (⟨ch, side, id⟩ : Spot) (1 - side) w5_1 f24 f25 f26 n1 n2 n3 hsv hk2_5 (by omega) (hws _) (hv2)) ?_
 rintro _ w7_4 ⟨rfl, bs7_4, bh7_4, h7_4⟩
 have L27 := L18.sub h7_4 (fun i hi hlt => Or.elim hi (fun hi => (by subst hi; exact Or.inr (Or.inl rfl))) (fun hi => (by subst hi; exact Or.inr (Or.inr (Or.inl rfl)))))
 refine W.nx (WC.sr (W.run 1 rfl (W.nx (WC.ret ?_))))
 have f28 := (f24.chP h7_4 (fun hF => Or.elim hF (fun hF => n1 hF) (fun hF => n2 hF)))
 have f29 := ((((((hO0.le h1_4).ch h1_5 (fun q hq => by cases hq; exact (fun he => by have := (hO0.row he).2; omega))).le (d2.trans h2_9_1)).ch h2_10_1 (fun q hq => by cases hq; exact (fun he => by have := (hO0.row he).2; have := h1_4.size; have := h1_5.size; have := d2.size; omega))).le (d5.trans h5_1)).chP h7_4 (fun q hqq hF => Or.elim hF (fun hF => (by subst hF; exact n5 hqq)) (fun hF => (by subst hF; exact n6 hqq))))
 refine E.retG1 rfl rfl ?_
 exact ⟨L27, .inr ⟨_, hk2_5, .inr ⟨(by omega), rfl, _, hsv, ⟨f28, f29, bs7_4, bh7_4, n1, n2, n3, n4, n5, n6⟩⟩⟩⟩

theorem lfail_ok {gp gs gh c cs ck : Nat} {A : Option Addr} {own : List Int} {ls : SM} {lh : HM} {lost : Int} (ch side id : Int) (w : World) (hL : LedL w gp gs gh A c cs ck own ls lh lost) (hw : ∀ x ∈ ls, ∀ i, 0 <= x.2.2.h i /\ x.2.2.h i <= 1125899906842624) (hv : ∀ x ∈ lh, (0 <= x.2.1.side /\ x.2.1.side <= 1) /\ (0 <= x.2.2.am /\ x.2.2.am <= 1125899906842624) /\ ∃ s, getG x.2.1.ch ls = some s) : Calls prog 15 #[.pointer (some ⟨gp, 0, none⟩), .int .i64 (ch), .int .i64 (side), .int .i64 (id)] w fun r w' => ChP w w' (LF gp gs gh A c) /\ ((getG (⟨ch, side, id⟩ : Spot) lh = none /\ r = .returned (.int .i64 5) /\ LedL w' gp gs gh A c cs ck own ls lh lost) \/ ∃ h, getG (⟨ch, side, id⟩ : Spot) lh = some h /\ r = .returned (.int .i64 0) /\ ∃ s, getG ch ls = some s /\ LedL w' gp gs gh A c cs ck own (updM ch (s.setH (side).toNat (s.h (side).toNat + h.am)) ls) (delM (⟨ch, side, id⟩ : Spot) lh) lost) := by
 have hp0 := hL.hp
 have hO0 := hL.hO
 have hS0 := hL.hS
 have hH0 := hL.hH
 have n1 := hL.ps
 have n2 := hL.ph
 have n3 := hL.sh
 have n4 := hL.op
 have n5 := hL.os
 have n6 := hL.oh
 refine enter func15 rfl rfl ?_
 have L0 := ChP.refl w (LF gp gs gh A c)
 refine WC.sr (W.run 1 rfl (W.nx (WC.sr (W.run 3 rfl ?_))))
 refine W.a (.buildP (placeV (⟨ch, side, id⟩ : Spot)) pl114 z114 rfl rfl) ?_
 refine W.ef rfl rfl rfl ?_
 refine Ef.allocA z114 ?_
 intro g1_4 w1_4 hg1_4 b1_4 h1_4
 have L1 := L0.le h1_4
 have b1_4 : Blk w1_4 g1_4 114 (placeV noSpot).toArray := b1_4
 refine W.ef0 rfl rfl ?_
 refine Ef.storeAll sz114 (by rfl) rfl rfl b1_4 (by simp only [List.size_toArray, placeV_row.len]) (placeV_row.one (⟨ch, side, id⟩ : Spot)) ?_
 intro w1_5 b1_5 h1_5
 have b1_5 : Blk w1_5 g1_4 114 (placeV (⟨ch, side, id⟩ : Spot)).toArray := b1_5
 have L2 : ChP w w1_5 (LF gp gs gh A c) := L1.ch h1_5 (fun i hi hlt => by cases hi; exact absurd hlt (by have := L0.size; have := hg1_4; omega))
 refine W.nx (WC.seq (WC.seq ?_))
 refine WC.draw [0, 1, 2, 3, 4, 5, 6, 7, 8, 9, 10, 11] mixed (by kernel_rfl) ?_
 intro w2 d2
 have L3 := L2.le d2
 refine G.run 1 rfl ?_
 refine G.a rfl (.nilCheck rfl) ?_
 refine G.a rfl (.field0 fa100_2 rfl) ?_
 have f4 := (((hp0.le h1_4).ch h1_5 (fun h => (show g1_4 ≠ gp from by have := hp0.lt; omega) (oI h))).le d2)
 refine G.r rfl (.loadB (v := .map (some gh)) na98 rfl f4 rfl) ?_
 have f5 := (b1_5.le d2)
 refine G.r rfl (.loadAll ag114 (by rfl) rfl f5) ?_
 rcases optG (getG (⟨ch, side, id⟩ : Spot) lh) with hk2_5 | ⟨vhk2_5, hk2_5⟩
 ·have f6 := (((hH0.le h1_4).ch h1_5 (fun h => (show g1_4 ≠ gh from by have := hH0.lt; omega) (oI h))).le d2)
  refine G.r rfl (.as (.lookup2 (key := (⟨ch, side, id⟩ : Spot)) underlying98 kplace z116 rfl rfl f6) (by rw [hk2_5] <;> rfl)) ?_
  refine G.run 1 rfl ?_
  refine G.a rfl (.extract (v := .agg (holdV noHold).toArray) rfl rfl) ?_
  refine G.run 1 rfl ?_
  refine G.ef rfl rfl rfl rfl rfl ?_
  refine Ef.allocA z116 ?_
  intro g2_9 w2_9 hg2_9 b2_9 h2_9
  refine ⟨fun _ => h2_9, ?_⟩
  have L7 := L3.le h2_9
  have b2_9 : Blk w2_9 g2_9 116 (holdV noHold).toArray := b2_9
  refine G.ef0 rfl rfl rfl rfl ?_
  refine Ef.storeAll sz116 (by rfl) rfl rfl b2_9 (by simp only [List.size_toArray, holdV_row.len]) (holdV_row.one noHold) ?_
  intro w2_10 b2_10 h2_10
  refine noT (by kernel_rfl) ?_
  have L8 : ChP w w2_10 (LF gp gs gh A c) := L7.ch h2_10 (fun i hi hlt => by cases hi; exact absurd hlt (by have := L3.size; have := hg2_9; omega))
  refine G.run 1 rfl (G.nil (E.thenN (WC.sr (W.run 2 rfl (W.nx (WC.condT rfl (WC.sr (W.run 1 rfl (W.nx (WC.ret (E.thenR ?_)))))))))))
  have f9 := ((f4.le h2_9).ch h2_10 (fun h => (show g2_9 ≠ gp from by have := f4.lt; omega) (oI h)))
  have f10 := ((((hO0.le h1_4).ch h1_5 (fun q hq => by cases hq; exact (fun he => by have := (hO0.row he).2; omega))).le (d2.trans h2_9)).ch h2_10 (fun q hq => by cases hq; exact (fun he => by have := (hO0.row he).2; have := h1_4.size; have := h1_5.size; have := d2.size; omega)))
  have f11 := ((((hS0.le h1_4).ch h1_5 (fun h => (show g1_4 ≠ gs from by have := hS0.lt; omega) (oI h))).le (d2.trans h2_9)).ch h2_10 (fun h => (show g2_9 ≠ gs from by have := hS0.lt; have := h1_4.size; have := h1_5.size; have := d2.size; omega) (oI h)))
  have f12 := ((f6.le h2_9).ch h2_10 (fun h => (show g2_9 ≠ gh from by have := f6.lt; omega) (oI h)))
  refine E.retG1 rfl rfl ?_
  exact ⟨L8, .inl ⟨hk2_5, rfl, ⟨f9, f10, f11, f12, n1, n2, n3, n4, n5, n6⟩⟩⟩
 obtain ⟨bh, hbh⟩ := getG_mem hk2_5
 obtain ⟨hv1, hv2, sv, hsv⟩ := hv _ hbh
 simp only at hv1 hv2 hsv
 obtain ⟨bs, hbs⟩ := getG_mem hsv
 have hws := hw _ hbs
 simp only at hws
 have f13 := (((hH0.le h1_4).ch h1_5 (fun h => (show g1_4 ≠ gh from by have := hH0.lt; omega) (oI h))).le d2)
 refine G.r rfl (.as (.lookup2 (key := (⟨ch, side, id⟩ : Spot)) underlying98 kplace z116 rfl rfl f13) (by rw [hk2_5] <;> rfl)) ?_
 refine G.run 1 rfl ?_
 refine G.a rfl (.extract (v := .agg (holdV vhk2_5).toArray) rfl rfl) ?_
 refine G.run 1 rfl ?_
 refine G.ef rfl rfl rfl rfl rfl ?_
 refine Ef.allocA z116 ?_
 intro g2_9_1 w2_9_1 hg2_9_1 b2_9_1 h2_9_1
 refine ⟨fun _ => h2_9_1, ?_⟩
 have L14 := L3.le h2_9_1
 have b2_9_1 : Blk w2_9_1 g2_9_1 116 (holdV noHold).toArray := b2_9_1
 refine G.ef0 rfl rfl rfl rfl ?_
 refine Ef.storeAll sz116 (by rfl) rfl rfl b2_9_1 (by simp only [List.size_toArray, holdV_row.len]) (holdV_row.one vhk2_5) ?_
 intro w2_10_1 b2_10_1 h2_10_1
 refine noT (by kernel_rfl) ?_
 have b2_10_1 : Blk w2_10_1 g2_9_1 116 (holdV vhk2_5).toArray := b2_10_1
 have L15 : ChP w w2_10_1 (LF gp gs gh A c) := L14.ch h2_10_1 (fun i hi hlt => by cases hi; exact absurd hlt (by have := L3.size; have := hg2_9_1; omega))
 refine G.run 1 rfl (G.nil (E.thenN (WC.sr (W.run 2 rfl (W.nx (WC.condF rfl (WC.sn (WC.sr (W.run 1 rfl ?_)))))))))
 have f16 := ((f5.le h2_9_1).ch h2_10_1 (fun h => (show g2_9_1 ≠ g1_4 from by have := f5.lt; omega) (oI h)))
 refine W.r (.loadAll ag114 (by rfl) rfl f16) ?_
 refine W.run 1 rfl ?_
 have f17 := ((f4.le h2_9_1).ch h2_10_1 (fun h => (show g2_9_1 ≠ gp from by have := f4.lt; omega) (oI h)))
 have f18 := ((((hS0.le h1_4).ch h1_5 (fun h => (show g1_4 ≠ gs from by have := hS0.lt; omega) (oI h))).le (d2.trans h2_9_1)).ch h2_10_1 (fun h => (show g2_9_1 ≠ gs from by have := hS0.lt; have := h1_4.size; have := h1_5.size; have := d2.size; omega) (oI h)))
 have f19 := ((f13.le h2_9_1).ch h2_10_1 (fun h => (show g2_9_1 ≠ gh from by have := f13.lt; omega) (oI h)))
 refine W.cl go47 rfl rfl (lend_ok (s := sv) (h := vhk2_5) (⟨ch, side, id⟩ : Spot) side w2_10_1 f17 f18 f19 n1 n2 n3 hsv hk2_5 (by omega) (hws _) (hv2)) ?_
 rintro _ w5_3 ⟨rfl, bs5_3, bh5_3, h5_3⟩
 have L20 := L15.sub h5_3 (fun i hi hlt => Or.elim hi (fun hi => (by subst hi; exact Or.inr (Or.inl rfl))) (fun hi => (by subst hi; exact Or.inr (Or.inr (Or.inl rfl)))))
 refine W.nx (WC.sr (W.run 1 rfl (W.nx (WC.ret ?_))))
 have f21 := (f17.chP h5_3 (fun hF => Or.elim hF (fun hF => n1 hF) (fun hF => n2 hF)))
 have f22 := (((((hO0.le h1_4).ch h1_5 (fun q hq => by cases hq; exact (fun he => by have := (hO0.row he).2; omega))).le (d2.trans h2_9_1)).ch h2_10_1 (fun q hq => by cases hq; exact (fun he => by have := (hO0.row he).2; have := h1_4.size; have := h1_5.size; have := d2.size; omega))).chP h5_3 (fun q hqq hF => Or.elim hF (fun hF => (by subst hF; exact n5 hqq)) (fun hF => (by subst hF; exact n6 hqq))))
 refine E.retG1 rfl rfl ?_
 exact ⟨L20, .inr ⟨_, hk2_5, rfl, _, hsv, ⟨f21, f22, bs5_3, bh5_3, n1, n2, n3, n4, n5, n6⟩⟩⟩
end Go.Proofs.YtgpaekbdbpkogaaGreat

namespace Go.Proofs.YtgpaekbdbpkogaaGreat
open Tryz
open Go Go.Sx Go.Num Go.Gsp Go.Lsp
set_option maxRecDepth 20000
theorem lnew_ok {Aw : Option Addr} {nw cw : Nat} {own : List Int} (w : World) (hO : Vec w iv 1 Aw nw own) : Calls prog 6 #[.slice Aw nw cw] w fun r w' => (¬ newOk own /\ r = .returned (.pointer none) /\ Le w w') \/ (newOk own /\ ∃ gp gs gh A c, r = .returned (.pointer (some ⟨gp, 0, none⟩)) /\ LedL w' gp gs gh A c 0 0 own [] [] 0 /\ (∀ k, LF gp gs gh A c k -> w.heap.size <= k) /\ Le w w') := by
 have hon := hO.1
 refine enter func6 rfl rfl ?_
 have L0 := Le.refl w
 refine WC.sr (W.run 1 rfl (W.nx (WC.seq (WC.sr (W.run 1 rfl ?_)))))
 refine W.r (.len underlying56 rfl) ?_
 refine W.run 1 rfl ?_
 by_cases q1_3 : ((nw : Nat) : Int) < 1
 ·refine W.dt q1_3 rfl rfl (W.run 4 rfl (W.nx (WC.condT rfl (WC.sr (W.run 1 rfl (W.nx (WC.ret (E.thenR ?_))))))))
  refine E.retG1 rfl rfl ?_
  exact .inl ⟨(by first | exact new_bad (by omega) (Bool.eq_false_iff.2 c2) | (rintro ⟨⟨z1, z2⟩, _⟩; omega)), rfl, L0⟩
 refine W.df q1_3 rfl rfl (W.run 1 rfl ?_)
 refine W.g (.len underlying56 rfl) ?_
 refine W.run 2 rfl (W.nx ?_)
 by_cases c0 : 12 < ((nw : Nat) : Int)
 ·refine WC.condY rfl (decide_eq_true c0) ?_
  refine WC.sr (W.run 1 rfl (W.nx (WC.ret (E.thenR ?_))))
  refine E.retG1 rfl rfl ?_
  exact .inl ⟨(by first | exact new_bad (by omega) (Bool.eq_false_iff.2 c2) | (rintro ⟨⟨z1, z2⟩, _⟩; omega)), rfl, L0⟩
 refine WC.condN rfl (decide_eq_false c0) ?_
 refine WC.sn (WC.sr (W.run 1 rfl (W.nx (WC.seq (WC.sr (W.run 1 rfl ?_))))))
 refine W.r (.len underlying56 rfl) ?_
 refine W.run 1 rfl (W.nx (WC.block ?_))
 refine WC.loop (ι := Nat) (fun k => [(0, .slice Aw nw cw), (3, .int .i64 (((own.take k).sum))), (16, .slice Aw nw cw), (17, .int .i64 (((nw : Nat) : Int))), (18, .int .i64 (((k : Nat) : Int)))]) (fun k wl0 => (k <= nw) /\ (∀ j, j < k -> 0 <= own.getD j 0) /\ ((own.take k).sum <= 1125899906842624) /\ Le w wl0 /\ w.heap.size <= wl0.heap.size) (fun k => nw - k) 0 ?_ ?_ ?_
 ·exact .cons rfl (.cons' rfl (int_eq (by simp)) (.cons rfl (.cons rfl (.cons rfl (.nil _)))))
 ·exact ⟨Nat.zero_le _, fun j hj => by omega, by simp, L0, Nat.le_refl _⟩
 rintro k wl0 ⟨hk, hn, hs, Ll0, zl0⟩
 refine WC.sr (W.run 1 rfl (W.nx (WC.seq ?_)))
 by_cases c1 : ((k : Nat) : Int) < ((nw : Nat) : Int)
 ·refine WC.condY rfl (decide_eq_true c1) ?_
  refine WC.sn (WC.seq (WC.block (WC.sr ?_)))
  refine W.a (.idxS (k) underlying56 sz3 rfl rfl (hO.isSome iv_row (by omega)) (rfl) (by omega)) ?_
  refine W.r (.vone (v := .int .i64 ((own.getD k 0))) na3 rfl (hO.le Ll0) iv_row (getS own 0 (by omega)) rfl) ?_
  refine W.run 1 rfl (W.nx (WC.sr (W.run 2 rfl ?_)))
  refine W.cl go33 rfl rfl (nadd_ok ((own.take k).sum) (own.getD k 0) wl0) ?_
  rintro _ w7_2 ⟨rfl, h7_2⟩
  have L1 := Ll0.trans h7_2
  refine W.run 5 rfl (W.nx (WC.seq (WC.sr (W.run 2 rfl (W.nx ?_)))))
  by_cases c2 : ((addC ((own.take k).sum) (own.getD k 0)).2) = true
  ·refine WC.condN rfl (congrArg not (c2)) ?_
   refine WC.sn (WC.region (W.run 2 rfl (W.nil (E.blkN (E.thenN (WC.region ?_))))))
   refine W.a (.add rfl rfl (by omega)) ?_
   refine W.run 1 rfl (W.nil ?_)
   refine E.again (k + 1) (.cons rfl (.cons' rfl (int_eq ((new_next (by omega) hn c2).1)) (.cons rfl (.cons rfl (.cons rfl (.nil _)))))) ?_ ?_
   ·exact ⟨by omega, (new_next (by omega) hn c2).2.2, (new_next (by omega) hn c2).2.1, L1, by have := zl0; have := h7_2.size; omega⟩
   first | omega | (simp only []; omega)
  refine WC.condY rfl (congrArg not ((Bool.eq_false_iff.2 c2))) ?_
  refine WC.sr (W.run 1 rfl (W.nx (WC.ret (E.thenR (E.blkR (E.thenR (E.thenR (E.blkR (E.thenR ?_)))))))))
  refine E.retG1 rfl rfl ?_
  exact .inl ⟨(by first | exact new_bad (by omega) (Bool.eq_false_iff.2 c2) | (rintro ⟨⟨z1, z2⟩, _⟩; omega)), rfl, L1⟩
 refine WC.condN rfl (decide_eq_false c1) ?_
 refine WC.exit (E.thenX (E.thenX (E.blkH (E.thenN (WC.sr (W.run 1 rfl ?_))))))
 refine W.cl go34 rfl rfl (iclone_ok wl0 (hO.le Ll0) (by omega)) ?_
 rintro _ w12_1 ⟨A12_1, c12_1, rfl, o12_1, h12_1⟩
 have L2 := Ll0.trans h12_1
 refine W.ef rfl rfl rfl ?_
 refine Ef.makeMapG ikf seatf ?_
 intro g12_2 w12_2 hg12_2 b12_2 h12_2
 have L3 := L2.trans h12_2
 refine W.ef rfl rfl rfl ?_
 refine Ef.makeMapG plf holdf ?_
 intro g12_3 w12_3 hg12_3 b12_3 h12_3
 have L4 := L3.trans h12_3
 refine W.a (.buildP [.slice A12_1 nw c12_1, .map (some g12_2), .map (some g12_3), .int .i64 (0)] pl100 z100 rfl rfl) ?_
 refine W.ef rfl rfl rfl ?_
 refine Ef.boxA rfl ?_
 intro g12_5 w12_5 hg12_5 b12_5 h12_5
 have L5 := L4.trans h12_5
 have b12_5 : Blk w12_5 g12_5 100 #[.slice A12_1 nw c12_1, .map (some g12_2), .map (some g12_3), .int .i64 (0)] := b12_5
 refine W.run 1 rfl (W.nx (WC.ret ?_))
 have f6 := (o12_1.le (h12_2.trans (h12_3.trans h12_5)))
 have f7 := (b12_2.le (h12_3.trans h12_5))
 have f8 := (b12_3.le h12_5)
 refine E.retG1 rfl rfl ?_
 have hk2 : k = nw := (by omega); have hsw : (own.take k).sum = own.sum := (by rw [List.take_of_length_le (by omega)]); have hnn : ∀ x ∈ own, 0 <= x := (fun x hx => by obtain ⟨j, hj, rfl⟩ := List.getElem_of_mem hx; have := hn j (by omega); rwa [List.getD_eq_getElem?_getD, List.getElem?_eq_getElem hj] at this); subst hon; exact .inr ⟨⟨⟨by omega, by omega⟩, hnn, by omega⟩, _, _, _, _, _, rfl, ⟨b12_5, f6.mono (Nat.zero_le _), f7, f8, (show g12_5 ≠ g12_2 from by have := b12_2.lt; have := h12_3.size; omega), (show g12_5 ≠ g12_3 from by have := b12_3.lt; omega), (show g12_2 ≠ g12_3 from by have := b12_2.lt; omega), (fun he => by have := (o12_1.row he).2; have := h12_2.size; have := h12_3.size; omega), (fun he => by have := (o12_1.row he).2; omega), (fun he => by have := (o12_1.row he).2; have := h12_2.size; omega)⟩, (by rintro q (rfl | rfl | rfl | hq); exact (by have := hg12_5; have := L4.size; omega); exact (by have := hg12_2; have := L2.size; omega); exact (by have := hg12_3; have := L3.size; omega); exact Nat.le_trans Ll0.size (f6.row hq).1), L5⟩


end Go.Proofs.YtgpaekbdbpkogaaGreat

namespace Go.Proofs.YtgpaekbdbpkogaaGreat
open Tryz
open Go Go.Sx Go.Num Go.Gsp Go.Lsp
set_option maxRecDepth 20000
theorem payTo_next {ls : SM} {legs : List Leg} {k : Nat} (h : k < legs.length) : payTo ls (legs.take (k + 1)) = payF (payTo ls (legs.take k)) (legs.getD k noLeg) := by
  unfold payTo
  rw [List.take_add_one, getS legs noLeg h, List.foldl_append]
  rfl
theorem payF_err {st : SM × Int} (h : st.2 ≠ 0) (g : Leg) : payF st g = st := by unfold payF; rw [if_pos h]
theorem foldl_err {st : SM × Int} (h : st.2 ≠ 0) : ∀ l : List Leg, l.foldl payF st = st
  | [] => rfl
  | g :: l => by rw [List.foldl_cons, payF_err h g, foldl_err h l]
theorem payTo_err {ls : SM} {legs : List Leg} {k : Nat} (h : (payTo ls (legs.take k)).2 ≠ 0) : payTo ls legs = payTo ls (legs.take k) := by
  have e : legs = legs.take k ++ legs.drop k := (List.take_append_drop k legs).symm
  have e2 : payTo ls legs = (legs.drop k).foldl payF (payTo ls (legs.take k)) := by
    unfold payTo
    rw [<- List.foldl_append, List.take_append_drop]
  rw [e2, foldl_err h]
theorem setH_ne {s : Seat} {i j : Nat} {v : Int} (hi : i < 2) (hj : j < 2) (h : i ≠ j) : (s.setH i v).h j = s.h j := by
  have h1 : i = 0 \/ i = 1 := by omega
  have h2 : j = 0 \/ j = 1 := by omega
  rcases h1 with rfl | rfl <;> rcases h2 with rfl | rfl <;> first | rfl | (exact absurd rfl h)
def hGood (ls : SM) : Prop := ∀ x ∈ ls, 0 <= x.2.2.h0 /\ 0 <= x.2.2.h1 /\ x.2.2.h0 + x.2.2.h1 <= 2251799813685248
theorem hGood_h {ls : SM} (h : hGood ls) {x : Nat × Int × Seat} (hx : x ∈ ls) (i : Nat) : 0 <= x.2.2.h i /\ x.2.2.h i <= 2251799813685248 := by
  have := h x hx
  unfold Seat.h
  split <;> omega
theorem legS_good {s : Seat} {g : Leg} (hs : 0 <= s.h0 /\ 0 <= s.h1 /\ s.h0 + s.h1 <= 2251799813685248) (hg : legOk g) (hf : ¬ s.h g.side.toNat < g.am) : 0 <= (legS s g).h0 /\ 0 <= (legS s g).h1 /\ (legS s g).h0 + (legS s g).h1 <= 2251799813685248 := by
  obtain ⟨⟨a1, a2⟩, a3, a4⟩ := hg
  have : g.side = 0 \/ g.side = 1 := by omega
  rcases this with e | e
  · rw [e] at hf
    simp [Seat.h] at hf
    simp [legS, e, Seat.setH, Seat.h]
    omega
  · rw [e] at hf
    simp [Seat.h] at hf
    simp [legS, e, Seat.setH, Seat.h]
    omega
theorem updM_good {ls : SM} {key : Int} {t : Seat} (h : hGood ls) (ht : 0 <= t.h0 /\ 0 <= t.h1 /\ t.h0 + t.h1 <= 2251799813685248) : hGood (updM key t ls) := by
  intro x hx
  unfold updM at hx
  obtain ⟨y, hy, rfl⟩ := List.mem_map.1 hx
  split
  · exact ht
  · exact h y hy
theorem lpay_ok {gp gs gh c cs ck : Nat} {A : Option Addr} {own : List Int} {ls : SM} {lh : HM} {lost : Int} {Ag : Option Addr} {ng cg : Nat} {legs : List Leg} (w : World) (hL : LedL w gp gs gh A c cs ck own ls lh lost) (hg : Vec w legV 3 Ag ng legs) (hng : ng <= 1000) (hgd : hGood ls) (hga : ∀ q, blkOf Ag = some q -> 0 < ng -> q < w.heap.size -> ¬ LF gp gs gh A c q) : Calls prog 24 #[.pointer (some ⟨gp, 0, none⟩), .slice Ag ng cg] w fun r w' => ChP w w' (LF gp gs gh A c) /\ (((payTo ls legs).2 ≠ 0 /\ r = .returned (.int .i64 (payTo ls legs).2) /\ LedL w' gp gs gh A c cs ck own ls lh lost) \/ ((payTo ls legs).2 = 0 /\ r = .returned (.int .i64 0) /\ ∃ gs', w.heap.size <= gs' /\ LedL w' gp gs' gh A c cs ck own (payTo ls legs).1 lh lost)) := by
 have hp0 := hL.hp
 have hO0 := hL.hO
 have hS0 := hL.hS
 have hH0 := hL.hH
 have n1 := hL.ps
 have n2 := hL.ph
 have n3 := hL.sh
 have n4 := hL.op
 have n5 := hL.os
 have n6 := hL.oh
 have hgn := hg.1
 refine enter func24 rfl rfl ?_
 have L0 := ChP.refl w (LF gp gs gh A c)
 refine WC.sr (W.run 1 rfl (W.nx (WC.sr (W.run 1 rfl ?_))))
 refine W.a (.nilCheck rfl) ?_
 refine W.a (.field0 fa100_1 rfl) ?_
 refine W.r (.loadB (v := .map (some gs)) na97 rfl hp0 rfl) ?_
 refine W.cl go50 rfl rfl (sclone_ok w hS0) ?_
 rintro _ w1_4 ⟨g1_4, rfl, hg1_4, b1_4, h1_4⟩
 have L1 := L0.le h1_4
 refine W.run 1 rfl (W.nx (WC.seq (WC.sr (W.run 1 rfl ?_))))
 refine W.r (.len underlying86 rfl) ?_
 refine W.run 1 rfl (W.nx (WC.block ?_))
 have f2 := (hp0.le h1_4)
 have f3 := (hO0.le h1_4)
 have f4 := (hS0.le h1_4)
 have f5 := (hH0.le h1_4)
 refine WC.loop (ι := Nat × SM) (fun ⟨k, lc⟩ => [(0, .pointer (some ⟨gp, 0, none⟩)), (5, .map (some g1_4)), (15, .slice Ag ng cg), (16, .int .i64 (((ng : Nat) : Int))), (17, .int .i64 (((k : Nat) : Int)))]) (fun ⟨k, lc⟩ wl0 => (k <= ng) /\ (payTo ls (legs.take k) = (lc, 0)) /\ (hGood lc) /\ ChP w wl0 (LF gp gs gh A c) /\ w1_4.heap.size <= wl0.heap.size /\ Blk wl0 gp 100 #[.slice A own.length c, .map (some gs), .map (some gh), .int .i64 (lost)] /\ OVec wl0 0 3 iv 1 A own.length c own /\ MapG wl0 ikf seatf gs ls cs /\ MapG wl0 plf holdf gh lh ck /\ MapG wl0 ikf seatf g1_4 lc cs) (fun ⟨k, lc⟩ => ng - k) (0, ls) ?_ ?_ ?_
 ·exact .cons rfl (.cons rfl (.cons rfl (.cons rfl (.cons rfl (.nil _)))))
 ·exact ⟨Nat.zero_le _, rfl, hgd, L1, Nat.le_refl _, f2, f3, f4, f5, b1_4⟩
 rintro ⟨k, lc⟩ wl0 ⟨hk, hpt, hgc, Ll0, zl0, f0_0, f0_1, f0_2, f0_3, f0_4⟩
 refine WC.sr (W.run 1 rfl (W.nx (WC.seq ?_)))
 by_cases c0 : ((k : Nat) : Int) < ((ng : Nat) : Int)
 ·refine WC.condY rfl (decide_eq_true c0) ?_
  refine WC.sn (WC.seq (WC.block (WC.sr ?_)))
  refine W.a (.idxS (k) underlying86 sz85 rfl rfl (hg.isSome legV_row (by omega)) (rfl) (by omega)) ?_
  refine W.r (.vload ag85 rfl (hg.chP Ll0 hga) legV_row (getS legs noLeg (by omega))) ?_
  refine W.ef rfl rfl rfl ?_
  refine Ef.allocA z85 ?_
  intro g4_2 w4_2 hg4_2 b4_2 h4_2
  have L6 := Ll0.le h4_2
  have b4_2 : Blk w4_2 g4_2 85 (legV noLeg).toArray := b4_2
  refine W.ef0 rfl rfl ?_
  refine Ef.storeAll sz85 (by rfl) rfl rfl b4_2 (by simp only [List.size_toArray, legV_row.len]) (legV_row.one (legs.getD k noLeg)) ?_
  intro w4_3 b4_3 h4_3
  have b4_3 : Blk w4_3 g4_2 85 (legV (legs.getD k noLeg)).toArray := b4_3
  have L7 : ChP w w4_3 (LF gp gs gh A c) := L6.ch h4_3 (fun i hi hlt => by cases hi; exact absurd hlt (by have := Ll0.size; have := hg4_2; omega))
  refine W.nx (WC.sr (W.run 1 rfl ?_))
  refine W.a (.field0 fa85_0 rfl) ?_
  refine W.r (.loadB (v := .int .i64 ((legs.getD k noLeg).ch)) na3 rfl b4_3 rfl) ?_
  rcases optG (getG ((legs.getD k noLeg).ch) lc) with hk5_3 | ⟨vhk5_3, hk5_3⟩
  ·have f8 := ((f0_4.le h4_2).ch h4_3 (fun h => (show g4_2 ≠ g1_4 from by have := f0_4.lt; omega) (oI h)))
   refine W.r (.as (.lookup2 (key := ((legs.getD k noLeg).ch)) underlying97 kint z60 rfl rfl f8) (by rw [hk5_3] <;> rfl)) ?_
   refine W.run 1 rfl ?_
   refine W.a (.extract (v := .agg (seatV noSeat).toArray) rfl rfl) ?_
   refine W.run 1 rfl (W.ef rfl rfl rfl ?_)
   refine Ef.allocA z60 ?_
   intro g5_7 w5_7 hg5_7 b5_7 h5_7
   have L9 := L7.le h5_7
   have b5_7 : Blk w5_7 g5_7 60 (seatV noSeat).toArray := b5_7
   refine W.ef0 rfl rfl ?_
   refine Ef.storeAll sz60 (by rfl) rfl rfl b5_7 (by simp only [List.size_toArray, seatV_row.len]) (seatV_row.one noSeat) ?_
   intro w5_8 b5_8 h5_8
   have L10 : ChP w w5_8 (LF gp gs gh A c) := L9.ch h5_8 (fun i hi hlt => by cases hi; exact absurd hlt (by have := L7.size; have := hg5_7; omega))
   refine W.run 1 rfl (W.nx (WC.seq (WC.block (WC.sr ?_))))
   refine W.a (.field0 fa85_1 rfl) ?_
   have f11 := ((b4_3.le h5_7).ch h5_8 (fun h => (show g5_7 ≠ g4_2 from by have := b4_3.lt; omega) (oI h)))
   refine W.r (.loadB (v := .int .i64 ((legs.getD k noLeg).side)) na3 rfl f11 rfl) ?_
   refine W.run 1 rfl ?_
   by_cases q6_3 : ((legs.getD k noLeg).side) < 0
   ·refine W.dt q6_3 rfl rfl (W.run 16 rfl (W.nx (WC.condT rfl (WC.sr (W.run 1 rfl (W.nx (WC.ret (E.blkR (E.thenR (E.blkR (E.thenR (E.thenR (E.blkR (E.thenR ?_))))))))))))))
    have f12 := ((((f0_0.le h4_2).ch h4_3 (fun h => (show g4_2 ≠ gp from by have := f0_0.lt; omega) (oI h))).le h5_7).ch h5_8 (fun h => (show g5_7 ≠ gp from by have := f0_0.lt; have := h4_2.size; have := h4_3.size; omega) (oI h)))
    have f13 := ((((f0_1.le h4_2).ch h4_3 (fun q hq => by cases hq; exact (fun he => by have := (f0_1.row he).2; omega))).le h5_7).ch h5_8 (fun q hq => by cases hq; exact (fun he => by have := (f0_1.row he).2; have := h4_2.size; have := h4_3.size; omega)))
    have f14 := ((((f0_2.le h4_2).ch h4_3 (fun h => (show g4_2 ≠ gs from by have := f0_2.lt; omega) (oI h))).le h5_7).ch h5_8 (fun h => (show g5_7 ≠ gs from by have := f0_2.lt; have := h4_2.size; have := h4_3.size; omega) (oI h)))
    have f15 := ((((f0_3.le h4_2).ch h4_3 (fun h => (show g4_2 ≠ gh from by have := f0_3.lt; omega) (oI h))).le h5_7).ch h5_8 (fun h => (show g5_7 ≠ gh from by have := f0_3.lt; have := h4_2.size; have := h4_3.size; omega) (oI h)))
    refine E.retG1 rfl rfl ?_
    have e9 : payTo ls (legs.take (k + 1)) = (lc, 1) := (by rw [payTo_next (by omega), hpt]; unfold payF; rw [if_neg (by simp)]; rw [if_pos (fun hh : legOk (legs.getD k noLeg) => by obtain ⟨⟨a1, a2⟩, a3, a4⟩ := hh; first | omega | (exact absurd (coin_iff.2 ⟨by omega, a4⟩) (by assumption)))]); have e8 : payTo ls legs = (lc, 1) := (by rw [payTo_err (k := k + 1) (by rw [e9]; simp), e9]); exact ⟨L10, .inl ⟨by rw [e8]; simp, by rw [e8], ⟨f12, f13, f14, f15, n1, n2, n3, n4, n5, n6⟩⟩⟩
   refine W.df q6_3 rfl rfl ?_
   refine W.g (Any.rd (.field0 fa85_1 rfl) _) ?_
   refine W.g (.loadB (v := .int .i64 ((legs.getD k noLeg).side)) na3 rfl f11 rfl) ?_
   refine W.run 2 rfl ?_
   by_cases q6_8 : 1 < ((legs.getD k noLeg).side)
   ·refine W.dt q6_8 rfl rfl (W.run 11 rfl (W.nx (WC.condT rfl (WC.sr (W.run 1 rfl (W.nx (WC.ret (E.blkR (E.thenR (E.blkR (E.thenR (E.thenR (E.blkR (E.thenR ?_))))))))))))))
    have f16 := ((((f0_0.le h4_2).ch h4_3 (fun h => (show g4_2 ≠ gp from by have := f0_0.lt; omega) (oI h))).le h5_7).ch h5_8 (fun h => (show g5_7 ≠ gp from by have := f0_0.lt; have := h4_2.size; have := h4_3.size; omega) (oI h)))
    have f17 := ((((f0_1.le h4_2).ch h4_3 (fun q hq => by cases hq; exact (fun he => by have := (f0_1.row he).2; omega))).le h5_7).ch h5_8 (fun q hq => by cases hq; exact (fun he => by have := (f0_1.row he).2; have := h4_2.size; have := h4_3.size; omega)))
    have f18 := ((((f0_2.le h4_2).ch h4_3 (fun h => (show g4_2 ≠ gs from by have := f0_2.lt; omega) (oI h))).le h5_7).ch h5_8 (fun h => (show g5_7 ≠ gs from by have := f0_2.lt; have := h4_2.size; have := h4_3.size; omega) (oI h)))
    have f19 := ((((f0_3.le h4_2).ch h4_3 (fun h => (show g4_2 ≠ gh from by have := f0_3.lt; omega) (oI h))).le h5_7).ch h5_8 (fun h => (show g5_7 ≠ gh from by have := f0_3.lt; have := h4_2.size; have := h4_3.size; omega) (oI h)))
    refine E.retG1 rfl rfl ?_
    have e9 : payTo ls (legs.take (k + 1)) = (lc, 1) := (by rw [payTo_next (by omega), hpt]; unfold payF; rw [if_neg (by simp)]; rw [if_pos (fun hh : legOk (legs.getD k noLeg) => by obtain ⟨⟨a1, a2⟩, a3, a4⟩ := hh; first | omega | (exact absurd (coin_iff.2 ⟨by omega, a4⟩) (by assumption)))]); have e8 : payTo ls legs = (lc, 1) := (by rw [payTo_err (k := k + 1) (by rw [e9]; simp), e9]); exact ⟨L10, .inl ⟨by rw [e8]; simp, by rw [e8], ⟨f16, f17, f18, f19, n1, n2, n3, n4, n5, n6⟩⟩⟩
   refine W.df q6_8 rfl rfl ?_
   refine W.g (Any.rd (.field0 fa85_2 rfl) _) ?_
   refine W.g (.loadB (v := .int .i64 ((legs.getD k noLeg).am)) na3 rfl f11 rfl) ?_
   refine W.run 2 rfl ?_
   by_cases q6_13 : ((legs.getD k noLeg).am) < 1
   ·refine W.dt q6_13 rfl rfl (W.run 6 rfl (W.nx (WC.condT rfl (WC.sr (W.run 1 rfl (W.nx (WC.ret (E.blkR (E.thenR (E.blkR (E.thenR (E.thenR (E.blkR (E.thenR ?_))))))))))))))
    have f20 := ((((f0_0.le h4_2).ch h4_3 (fun h => (show g4_2 ≠ gp from by have := f0_0.lt; omega) (oI h))).le h5_7).ch h5_8 (fun h => (show g5_7 ≠ gp from by have := f0_0.lt; have := h4_2.size; have := h4_3.size; omega) (oI h)))
    have f21 := ((((f0_1.le h4_2).ch h4_3 (fun q hq => by cases hq; exact (fun he => by have := (f0_1.row he).2; omega))).le h5_7).ch h5_8 (fun q hq => by cases hq; exact (fun he => by have := (f0_1.row he).2; have := h4_2.size; have := h4_3.size; omega)))
    have f22 := ((((f0_2.le h4_2).ch h4_3 (fun h => (show g4_2 ≠ gs from by have := f0_2.lt; omega) (oI h))).le h5_7).ch h5_8 (fun h => (show g5_7 ≠ gs from by have := f0_2.lt; have := h4_2.size; have := h4_3.size; omega) (oI h)))
    have f23 := ((((f0_3.le h4_2).ch h4_3 (fun h => (show g4_2 ≠ gh from by have := f0_3.lt; omega) (oI h))).le h5_7).ch h5_8 (fun h => (show g5_7 ≠ gh from by have := f0_3.lt; have := h4_2.size; have := h4_3.size; omega) (oI h)))
    refine E.retG1 rfl rfl ?_
    have e9 : payTo ls (legs.take (k + 1)) = (lc, 1) := (by rw [payTo_next (by omega), hpt]; unfold payF; rw [if_neg (by simp)]; rw [if_pos (fun hh : legOk (legs.getD k noLeg) => by obtain ⟨⟨a1, a2⟩, a3, a4⟩ := hh; first | omega | (exact absurd (coin_iff.2 ⟨by omega, a4⟩) (by assumption)))]); have e8 : payTo ls legs = (lc, 1) := (by rw [payTo_err (k := k + 1) (by rw [e9]; simp), e9]); exact ⟨L10, .inl ⟨by rw [e8]; simp, by rw [e8], ⟨f20, f21, f22, f23, n1, n2, n3, n4, n5, n6⟩⟩⟩
   refine W.df q6_13 rfl rfl ?_
   refine W.g (Any.rd (.field0 fa85_2 rfl) _) ?_
   refine W.g (.loadB (v := .int .i64 ((legs.getD k noLeg).am)) na3 rfl f11 rfl) ?_
   refine W.efg rfl rfl rfl (rfl) rfl rfl ?_
   refine Ef.call go36 rfl rfl (coin_ok ((legs.getD k noLeg).am) w5_8) ?_
   rintro _ w6_16 ⟨rfl, h6_16⟩
   refine ⟨_, rfl, ?_⟩
   have L24 := L10.le h6_16
   refine W.run 3 rfl (W.nx ?_)
   by_cases c1 : (coinL ((legs.getD k noLeg).am)) = true
   ·refine WC.condN rfl (congrArg not (c1)) ?_
    have hlo : legOk (legs.getD k noLeg) := ⟨⟨by omega, by omega⟩, by omega, (coin_iff.1 (by assumption)).2⟩
    have hlo2 := hlo
    obtain ⟨⟨o1, o2⟩, o3, o4⟩ := hlo2
    refine WC.sr (W.run 3 rfl (W.nx (WC.condT rfl (WC.sr (W.run 1 rfl (W.nx (WC.ret (E.blkR (E.thenR (E.blkR (E.thenR (E.thenR (E.blkR (E.thenR ?_))))))))))))))
    have f25 := (((((f0_0.le h4_2).ch h4_3 (fun h => (show g4_2 ≠ gp from by have := f0_0.lt; omega) (oI h))).le h5_7).ch h5_8 (fun h => (show g5_7 ≠ gp from by have := f0_0.lt; have := h4_2.size; have := h4_3.size; omega) (oI h))).le h6_16)
    have f26 := (((((f0_1.le h4_2).ch h4_3 (fun q hq => by cases hq; exact (fun he => by have := (f0_1.row he).2; omega))).le h5_7).ch h5_8 (fun q hq => by cases hq; exact (fun he => by have := (f0_1.row he).2; have := h4_2.size; have := h4_3.size; omega))).le h6_16)
    have f27 := (((((f0_2.le h4_2).ch h4_3 (fun h => (show g4_2 ≠ gs from by have := f0_2.lt; omega) (oI h))).le h5_7).ch h5_8 (fun h => (show g5_7 ≠ gs from by have := f0_2.lt; have := h4_2.size; have := h4_3.size; omega) (oI h))).le h6_16)
    have f28 := (((((f0_3.le h4_2).ch h4_3 (fun h => (show g4_2 ≠ gh from by have := f0_3.lt; omega) (oI h))).le h5_7).ch h5_8 (fun h => (show g5_7 ≠ gh from by have := f0_3.lt; have := h4_2.size; have := h4_3.size; omega) (oI h))).le h6_16)
    refine E.retG1 rfl rfl ?_
    have e9 : payTo ls (legs.take (k + 1)) = (lc, 5) := (by rw [payTo_next (by omega), hpt]; unfold payF; rw [if_neg (by simp)]; rw [if_neg (not_not_intro hlo), hk5_3]); have e8 : payTo ls legs = (lc, 5) := (by rw [payTo_err (k := k + 1) (by rw [e9]; simp), e9]); exact ⟨L24, .inl ⟨by rw [e8]; simp, by rw [e8], ⟨f25, f26, f27, f28, n1, n2, n3, n4, n5, n6⟩⟩⟩
   refine WC.condY rfl (congrArg not ((Bool.eq_false_iff.2 c1))) ?_
   refine WC.sr (W.run 1 rfl (W.nx (WC.ret (E.blkR (E.thenR (E.blkR (E.thenR (E.thenR (E.blkR (E.thenR ?_))))))))))
   have f29 := (((((f0_0.le h4_2).ch h4_3 (fun h => (show g4_2 ≠ gp from by have := f0_0.lt; omega) (oI h))).le h5_7).ch h5_8 (fun h => (show g5_7 ≠ gp from by have := f0_0.lt; have := h4_2.size; have := h4_3.size; omega) (oI h))).le h6_16)
   have f30 := (((((f0_1.le h4_2).ch h4_3 (fun q hq => by cases hq; exact (fun he => by have := (f0_1.row he).2; omega))).le h5_7).ch h5_8 (fun q hq => by cases hq; exact (fun he => by have := (f0_1.row he).2; have := h4_2.size; have := h4_3.size; omega))).le h6_16)
   have f31 := (((((f0_2.le h4_2).ch h4_3 (fun h => (show g4_2 ≠ gs from by have := f0_2.lt; omega) (oI h))).le h5_7).ch h5_8 (fun h => (show g5_7 ≠ gs from by have := f0_2.lt; have := h4_2.size; have := h4_3.size; omega) (oI h))).le h6_16)
   have f32 := (((((f0_3.le h4_2).ch h4_3 (fun h => (show g4_2 ≠ gh from by have := f0_3.lt; omega) (oI h))).le h5_7).ch h5_8 (fun h => (show g5_7 ≠ gh from by have := f0_3.lt; have := h4_2.size; have := h4_3.size; omega) (oI h))).le h6_16)
   refine E.retG1 rfl rfl ?_
   have e9 : payTo ls (legs.take (k + 1)) = (lc, 1) := (by rw [payTo_next (by omega), hpt]; unfold payF; rw [if_neg (by simp)]; rw [if_pos (fun hh : legOk (legs.getD k noLeg) => by obtain ⟨⟨a1, a2⟩, a3, a4⟩ := hh; first | omega | (exact absurd (coin_iff.2 ⟨by omega, a4⟩) (by assumption)))]); have e8 : payTo ls legs = (lc, 1) := (by rw [payTo_err (k := k + 1) (by rw [e9]; simp), e9]); exact ⟨L24, .inl ⟨by rw [e8]; simp, by rw [e8], ⟨f29, f30, f31, f32, n1, n2, n3, n4, n5, n6⟩⟩⟩
  obtain ⟨bh, hbh⟩ := getG_mem hk5_3
  have hsg : 0 <= vhk5_3.h0 /\ 0 <= vhk5_3.h1 /\ vhk5_3.h0 + vhk5_3.h1 <= 2251799813685248 := hgc _ hbh
  have hsh : ∀ i, 0 <= vhk5_3.h i /\ vhk5_3.h i <= 2251799813685248 := fun i => hGood_h hgc hbh i
  have f33 := ((f0_4.le h4_2).ch h4_3 (fun h => (show g4_2 ≠ g1_4 from by have := f0_4.lt; omega) (oI h)))
  refine W.r (.as (.lookup2 (key := ((legs.getD k noLeg).ch)) underlying97 kint z60 rfl rfl f33) (by rw [hk5_3] <;> rfl)) ?_
  refine W.run 1 rfl ?_
  refine W.a (.extract (v := .agg (seatV vhk5_3).toArray) rfl rfl) ?_
  refine W.run 1 rfl (W.ef rfl rfl rfl ?_)
  refine Ef.allocA z60 ?_
  intro g5_7_1 w5_7_1 hg5_7_1 b5_7_1 h5_7_1
  have L34 := L7.le h5_7_1
  have b5_7_1 : Blk w5_7_1 g5_7_1 60 (seatV noSeat).toArray := b5_7_1
  refine W.ef0 rfl rfl ?_
  refine Ef.storeAll sz60 (by rfl) rfl rfl b5_7_1 (by simp only [List.size_toArray, seatV_row.len]) (seatV_row.one vhk5_3) ?_
  intro w5_8_1 b5_8_1 h5_8_1
  have b5_8_1 : Blk w5_8_1 g5_7_1 60 (seatV vhk5_3).toArray := b5_8_1
  have L35 : ChP w w5_8_1 (LF gp gs gh A c) := L34.ch h5_8_1 (fun i hi hlt => by cases hi; exact absurd hlt (by have := L7.size; have := hg5_7_1; omega))
  refine W.run 1 rfl (W.nx (WC.seq (WC.block (WC.sr ?_))))
  refine W.a (.field0 fa85_1 rfl) ?_
  have f36 := ((b4_3.le h5_7_1).ch h5_8_1 (fun h => (show g5_7_1 ≠ g4_2 from by have := b4_3.lt; omega) (oI h)))
  refine W.r (.loadB (v := .int .i64 ((legs.getD k noLeg).side)) na3 rfl f36 rfl) ?_
  refine W.run 1 rfl ?_
  by_cases q6_3 : ((legs.getD k noLeg).side) < 0
  ·refine W.dt q6_3 rfl rfl (W.run 16 rfl (W.nx (WC.condT rfl (WC.sr (W.run 1 rfl (W.nx (WC.ret (E.blkR (E.thenR (E.blkR (E.thenR (E.thenR (E.blkR (E.thenR ?_))))))))))))))
   have f37 := ((((f0_0.le h4_2).ch h4_3 (fun h => (show g4_2 ≠ gp from by have := f0_0.lt; omega) (oI h))).le h5_7_1).ch h5_8_1 (fun h => (show g5_7_1 ≠ gp from by have := f0_0.lt; have := h4_2.size; have := h4_3.size; omega) (oI h)))
   have f38 := ((((f0_1.le h4_2).ch h4_3 (fun q hq => by cases hq; exact (fun he => by have := (f0_1.row he).2; omega))).le h5_7_1).ch h5_8_1 (fun q hq => by cases hq; exact (fun he => by have := (f0_1.row he).2; have := h4_2.size; have := h4_3.size; omega)))
   have f39 := ((((f0_2.le h4_2).ch h4_3 (fun h => (show g4_2 ≠ gs from by have := f0_2.lt; omega) (oI h))).le h5_7_1).ch h5_8_1 (fun h => (show g5_7_1 ≠ gs from by have := f0_2.lt; have := h4_2.size; have := h4_3.size; omega) (oI h)))
   have f40 := ((((f0_3.le h4_2).ch h4_3 (fun h => (show g4_2 ≠ gh from by have := f0_3.lt; omega) (oI h))).le h5_7_1).ch h5_8_1 (fun h => (show g5_7_1 ≠ gh from by have := f0_3.lt; have := h4_2.size; have := h4_3.size; omega) (oI h)))
   refine E.retG1 rfl rfl ?_
   have e9 : payTo ls (legs.take (k + 1)) = (lc, 1) := (by rw [payTo_next (by omega), hpt]; unfold payF; rw [if_neg (by simp)]; rw [if_pos (fun hh : legOk (legs.getD k noLeg) => by obtain ⟨⟨a1, a2⟩, a3, a4⟩ := hh; first | omega | (exact absurd (coin_iff.2 ⟨by omega, a4⟩) (by assumption)))]); have e8 : payTo ls legs = (lc, 1) := (by rw [payTo_err (k := k + 1) (by rw [e9]; simp), e9]); exact ⟨L35, .inl ⟨by rw [e8]; simp, by rw [e8], ⟨f37, f38, f39, f40, n1, n2, n3, n4, n5, n6⟩⟩⟩
  refine W.df q6_3 rfl rfl ?_
  refine W.g (Any.rd (.field0 fa85_1 rfl) _) ?_
  refine W.g (.loadB (v := .int .i64 ((legs.getD k noLeg).side)) na3 rfl f36 rfl) ?_
  refine W.run 2 rfl ?_
  by_cases q6_8 : 1 < ((legs.getD k noLeg).side)
  ·refine W.dt q6_8 rfl rfl (W.run 11 rfl (W.nx (WC.condT rfl (WC.sr (W.run 1 rfl (W.nx (WC.ret (E.blkR (E.thenR (E.blkR (E.thenR (E.thenR (E.blkR (E.thenR ?_))))))))))))))
   have f41 := ((((f0_0.le h4_2).ch h4_3 (fun h => (show g4_2 ≠ gp from by have := f0_0.lt; omega) (oI h))).le h5_7_1).ch h5_8_1 (fun h => (show g5_7_1 ≠ gp from by have := f0_0.lt; have := h4_2.size; have := h4_3.size; omega) (oI h)))
   have f42 := ((((f0_1.le h4_2).ch h4_3 (fun q hq => by cases hq; exact (fun he => by have := (f0_1.row he).2; omega))).le h5_7_1).ch h5_8_1 (fun q hq => by cases hq; exact (fun he => by have := (f0_1.row he).2; have := h4_2.size; have := h4_3.size; omega)))
   have f43 := ((((f0_2.le h4_2).ch h4_3 (fun h => (show g4_2 ≠ gs from by have := f0_2.lt; omega) (oI h))).le h5_7_1).ch h5_8_1 (fun h => (show g5_7_1 ≠ gs from by have := f0_2.lt; have := h4_2.size; have := h4_3.size; omega) (oI h)))
   have f44 := ((((f0_3.le h4_2).ch h4_3 (fun h => (show g4_2 ≠ gh from by have := f0_3.lt; omega) (oI h))).le h5_7_1).ch h5_8_1 (fun h => (show g5_7_1 ≠ gh from by have := f0_3.lt; have := h4_2.size; have := h4_3.size; omega) (oI h)))
   refine E.retG1 rfl rfl ?_
   have e9 : payTo ls (legs.take (k + 1)) = (lc, 1) := (by rw [payTo_next (by omega), hpt]; unfold payF; rw [if_neg (by simp)]; rw [if_pos (fun hh : legOk (legs.getD k noLeg) => by obtain ⟨⟨a1, a2⟩, a3, a4⟩ := hh; first | omega | (exact absurd (coin_iff.2 ⟨by omega, a4⟩) (by assumption)))]); have e8 : payTo ls legs = (lc, 1) := (by rw [payTo_err (k := k + 1) (by rw [e9]; simp), e9]); exact ⟨L35, .inl ⟨by rw [e8]; simp, by rw [e8], ⟨f41, f42, f43, f44, n1, n2, n3, n4, n5, n6⟩⟩⟩
  refine W.df q6_8 rfl rfl ?_
  refine W.g (Any.rd (.field0 fa85_2 rfl) _) ?_
  refine W.g (.loadB (v := .int .i64 ((legs.getD k noLeg).am)) na3 rfl f36 rfl) ?_
  refine W.run 2 rfl ?_
  by_cases q6_13 : ((legs.getD k noLeg).am) < 1
  ·refine W.dt q6_13 rfl rfl (W.run 6 rfl (W.nx (WC.condT rfl (WC.sr (W.run 1 rfl (W.nx (WC.ret (E.blkR (E.thenR (E.blkR (E.thenR (E.thenR (E.blkR (E.thenR ?_))))))))))))))
   have f45 := ((((f0_0.le h4_2).ch h4_3 (fun h => (show g4_2 ≠ gp from by have := f0_0.lt; omega) (oI h))).le h5_7_1).ch h5_8_1 (fun h => (show g5_7_1 ≠ gp from by have := f0_0.lt; have := h4_2.size; have := h4_3.size; omega) (oI h)))
   have f46 := ((((f0_1.le h4_2).ch h4_3 (fun q hq => by cases hq; exact (fun he => by have := (f0_1.row he).2; omega))).le h5_7_1).ch h5_8_1 (fun q hq => by cases hq; exact (fun he => by have := (f0_1.row he).2; have := h4_2.size; have := h4_3.size; omega)))
   have f47 := ((((f0_2.le h4_2).ch h4_3 (fun h => (show g4_2 ≠ gs from by have := f0_2.lt; omega) (oI h))).le h5_7_1).ch h5_8_1 (fun h => (show g5_7_1 ≠ gs from by have := f0_2.lt; have := h4_2.size; have := h4_3.size; omega) (oI h)))
   have f48 := ((((f0_3.le h4_2).ch h4_3 (fun h => (show g4_2 ≠ gh from by have := f0_3.lt; omega) (oI h))).le h5_7_1).ch h5_8_1 (fun h => (show g5_7_1 ≠ gh from by have := f0_3.lt; have := h4_2.size; have := h4_3.size; omega) (oI h)))
   refine E.retG1 rfl rfl ?_
   have e9 : payTo ls (legs.take (k + 1)) = (lc, 1) := (by rw [payTo_next (by omega), hpt]; unfold payF; rw [if_neg (by simp)]; rw [if_pos (fun hh : legOk (legs.getD k noLeg) => by obtain ⟨⟨a1, a2⟩, a3, a4⟩ := hh; first | omega | (exact absurd (coin_iff.2 ⟨by omega, a4⟩) (by assumption)))]); have e8 : payTo ls legs = (lc, 1) := (by rw [payTo_err (k := k + 1) (by rw [e9]; simp), e9]); exact ⟨L35, .inl ⟨by rw [e8]; simp, by rw [e8], ⟨f45, f46, f47, f48, n1, n2, n3, n4, n5, n6⟩⟩⟩
  refine W.df q6_13 rfl rfl ?_
  refine W.g (Any.rd (.field0 fa85_2 rfl) _) ?_
  refine W.g (.loadB (v := .int .i64 ((legs.getD k noLeg).am)) na3 rfl f36 rfl) ?_
  refine W.efg rfl rfl rfl (rfl) rfl rfl ?_
  refine Ef.call go36 rfl rfl (coin_ok ((legs.getD k noLeg).am) w5_8_1) ?_
  rintro _ w6_16_1 ⟨rfl, h6_16_1⟩
  refine ⟨_, rfl, ?_⟩
  have L49 := L35.le h6_16_1
  refine W.run 3 rfl (W.nx ?_)
  by_cases c1 : (coinL ((legs.getD k noLeg).am)) = true
  ·refine WC.condN rfl (congrArg not (c1)) ?_
   have hlo : legOk (legs.getD k noLeg) := ⟨⟨by omega, by omega⟩, by omega, (coin_iff.1 (by assumption)).2⟩
   have hlo2 := hlo
   obtain ⟨⟨o1, o2⟩, o3, o4⟩ := hlo2
   refine WC.sr (W.run 3 rfl (W.nx (WC.condF rfl (WC.seq ?_))))
   refine WC.draw [0, 1, 2, 3, 4, 5, 6, 7, 8] mixed (by kernel_rfl) ?_
   intro w10 d10
   have L50 := L49.le d10
   refine G.a rfl (.field0 fa85_1 rfl) ?_
   have f51 := (f36.le (h6_16_1.trans d10))
   refine G.r rfl (.loadB (v := .int .i64 ((legs.getD k noLeg).side)) na3 rfl f51 rfl) ?_
   refine G.a rfl (.field0 fa60_2 rfl) ?_
   refine G.a rfl (.idxAo (((legs.getD k noLeg).side).toNat) underlying48 sz3 rfl rfl (by omega) (by omega)) ?_
   have f52 := (b5_8_1.le (h6_16_1.trans d10))
   refine G.r rfl (.loadB (v := .int .i64 ((vhk5_3.h (((legs.getD k noLeg).side).toNat)))) na3 rfl f52 (seatH_at vhk5_3 (by omega))) ?_
   refine G.a rfl (.field0 fa85_2 rfl) ?_
   refine G.r rfl (.loadB (v := .int .i64 ((legs.getD k noLeg).am)) na3 rfl f51 rfl) ?_
   refine G.run 2 rfl (G.nil (E.thenN ?_))
   by_cases c3 : (vhk5_3.h (((legs.getD k noLeg).side).toNat)) < ((legs.getD k noLeg).am)
   ·refine WC.condY rfl (decide_eq_true c3) ?_
    refine WC.sr (W.run 1 rfl (W.nx (WC.ret (E.blkR (E.thenR (E.blkR (E.thenR (E.thenR (E.blkR (E.thenR ?_))))))))))
    have f53 := (((((f0_0.le h4_2).ch h4_3 (fun h => (show g4_2 ≠ gp from by have := f0_0.lt; omega) (oI h))).le h5_7_1).ch h5_8_1 (fun h => (show g5_7_1 ≠ gp from by have := f0_0.lt; have := h4_2.size; have := h4_3.size; omega) (oI h))).le (h6_16_1.trans d10))
    have f54 := (((((f0_1.le h4_2).ch h4_3 (fun q hq => by cases hq; exact (fun he => by have := (f0_1.row he).2; omega))).le h5_7_1).ch h5_8_1 (fun q hq => by cases hq; exact (fun he => by have := (f0_1.row he).2; have := h4_2.size; have := h4_3.size; omega))).le (h6_16_1.trans d10))
    have f55 := (((((f0_2.le h4_2).ch h4_3 (fun h => (show g4_2 ≠ gs from by have := f0_2.lt; omega) (oI h))).le h5_7_1).ch h5_8_1 (fun h => (show g5_7_1 ≠ gs from by have := f0_2.lt; have := h4_2.size; have := h4_3.size; omega) (oI h))).le (h6_16_1.trans d10))
    have f56 := (((((f0_3.le h4_2).ch h4_3 (fun h => (show g4_2 ≠ gh from by have := f0_3.lt; omega) (oI h))).le h5_7_1).ch h5_8_1 (fun h => (show g5_7_1 ≠ gh from by have := f0_3.lt; have := h4_2.size; have := h4_3.size; omega) (oI h))).le (h6_16_1.trans d10))
    refine E.retG1 rfl rfl ?_
    have e9 : payTo ls (legs.take (k + 1)) = (lc, 8) := (by rw [payTo_next (by omega), hpt]; unfold payF; rw [if_neg (by simp)]; rw [if_neg (not_not_intro hlo), hk5_3]; simp only; rw [if_pos c3]); have e8 : payTo ls legs = (lc, 8) := (by rw [payTo_err (k := k + 1) (by rw [e9]; simp), e9]); exact ⟨L50, .inl ⟨by rw [e8]; simp, by rw [e8], ⟨f53, f54, f55, f56, n1, n2, n3, n4, n5, n6⟩⟩⟩
   refine WC.condN rfl (decide_eq_false c3) ?_
   refine WC.skip (E.blkN (E.thenN (WC.seq ?_)))
   refine WC.draw [0, 1, 2, 3, 4, 5, 6, 7, 8, 9, 10] mixed (by kernel_rfl) ?_
   intro w12 d12
   have L57 := L50.le d12
   refine G.a rfl (.field0 fa85_1 rfl) ?_
   have f58 := (f51.le d12)
   refine G.r rfl (.loadB (v := .int .i64 ((legs.getD k noLeg).side)) na3 rfl f58 rfl) ?_
   refine G.a rfl (.field0 fa60_2 rfl) ?_
   refine G.a rfl (.idxAo (((legs.getD k noLeg).side).toNat) underlying48 sz3 rfl rfl (by omega) (by omega)) ?_
   have f59 := (f52.le d12)
   refine G.r rfl (.loadB (v := .int .i64 ((vhk5_3.h (((legs.getD k noLeg).side).toNat)))) na3 rfl f59 (seatH_at vhk5_3 (by omega))) ?_
   refine G.a rfl (.field0 fa85_2 rfl) ?_
   refine G.r rfl (.loadB (v := .int .i64 ((legs.getD k noLeg).am)) na3 rfl f58 rfl) ?_
   refine G.a rfl (.sub rfl rfl (by have := hsh ((legs.getD k noLeg).side).toNat; omega)) ?_
   refine G.a rfl (.field0 fa60_2 rfl) ?_
   refine G.a rfl (.idxAo (((legs.getD k noLeg).side).toNat) underlying48 sz3 rfl rfl (by omega) (by omega)) ?_
   refine G.ef0 rfl rfl rfl rfl ?_
   refine Ef.store sz3 rfl rfl f59 (by simp [seatV_row.len, -List.getD_eq_getElem?_getD]; omega) rfl ?_
   intro w12_10 b12_10 h12_10
   refine noT (by kernel_rfl) ?_
   have b12_10 : Blk w12_10 g5_7_1 60 (seatV (vhk5_3.setH (((legs.getD k noLeg).side).toNat) ((vhk5_3.h (((legs.getD k noLeg).side).toNat)) - ((legs.getD k noLeg).am)))).toArray := b12_10.cast (seatH_set vhk5_3 ((vhk5_3.h (((legs.getD k noLeg).side).toNat)) - ((legs.getD k noLeg).am)) (by omega))
   have L60 : ChP w w12_10 (LF gp gs gh A c) := L57.ch h12_10 (fun i hi hlt => by cases hi; exact absurd hlt (by have := L7.size; have := hg5_7_1; omega))
   refine G.nil (E.thenN (WC.seq ?_))
   refine WC.draw [0, 1, 2, 3, 4, 5, 6, 7, 8, 9, 10, 11] mixed (by kernel_rfl) ?_
   intro w13 d13
   have L61 := L60.le d13
   refine G.a rfl (.field0 fa85_1 rfl) ?_
   have f62 := ((f58.ch h12_10 (fun h => (show g5_7_1 ≠ g4_2 from by have := b4_3.lt; omega) (oI h))).le d13)
   refine G.r rfl (.loadB (v := .int .i64 ((legs.getD k noLeg).side)) na3 rfl f62 rfl) ?_
   refine G.a rfl (.sub rfl rfl (by omega)) ?_
   refine G.a rfl (.field0 fa60_2 rfl) ?_
   refine G.a rfl (.idxAo (((1 - ((legs.getD k noLeg).side))).toNat) underlying48 sz3 rfl rfl (by omega) (by omega)) ?_
   have f63 := (b12_10.le d13)
   refine G.r rfl (.loadB (v := .int .i64 (((vhk5_3.setH (((legs.getD k noLeg).side).toNat) ((vhk5_3.h (((legs.getD k noLeg).side).toNat)) - ((legs.getD k noLeg).am))).h (((1 - ((legs.getD k noLeg).side))).toNat)))) na3 rfl f63 (seatH_at (vhk5_3.setH (((legs.getD k noLeg).side).toNat) ((vhk5_3.h (((legs.getD k noLeg).side).toNat)) - ((legs.getD k noLeg).am))) (by omega))) ?_
   refine G.a rfl (.field0 fa85_2 rfl) ?_
   refine G.r rfl (.loadB (v := .int .i64 ((legs.getD k noLeg).am)) na3 rfl f62 rfl) ?_
   refine G.a rfl (.add rfl rfl (by rw [setH_ne (by omega) (by omega) (by omega)]; have := hsh ((1 - (legs.getD k noLeg).side)).toNat; omega)) ?_
   refine G.a rfl (.field0 fa60_2 rfl) ?_
   refine G.a rfl (.idxAo (((1 - ((legs.getD k noLeg).side))).toNat) underlying48 sz3 rfl rfl (by omega) (by omega)) ?_
   refine G.ef0 rfl rfl rfl rfl ?_
   refine Ef.store sz3 rfl rfl f63 (by simp [seatV_row.len, -List.getD_eq_getElem?_getD]; omega) rfl ?_
   intro w13_11 b13_11 h13_11
   refine noT (by kernel_rfl) ?_
   have b13_11 : Blk w13_11 g5_7_1 60 (seatV ((vhk5_3.setH (((legs.getD k noLeg).side).toNat) ((vhk5_3.h (((legs.getD k noLeg).side).toNat)) - ((legs.getD k noLeg).am))).setH (((1 - ((legs.getD k noLeg).side))).toNat) (((vhk5_3.setH (((legs.getD k noLeg).side).toNat) ((vhk5_3.h (((legs.getD k noLeg).side).toNat)) - ((legs.getD k noLeg).am))).h (((1 - ((legs.getD k noLeg).side))).toNat)) + ((legs.getD k noLeg).am)))).toArray := b13_11.cast (seatH_set (vhk5_3.setH (((legs.getD k noLeg).side).toNat) ((vhk5_3.h (((legs.getD k noLeg).side).toNat)) - ((legs.getD k noLeg).am))) (((vhk5_3.setH (((legs.getD k noLeg).side).toNat) ((vhk5_3.h (((legs.getD k noLeg).side).toNat)) - ((legs.getD k noLeg).am))).h (((1 - ((legs.getD k noLeg).side))).toNat)) + ((legs.getD k noLeg).am)) (by omega))
   have L64 : ChP w w13_11 (LF gp gs gh A c) := L61.ch h13_11 (fun i hi hlt => by cases hi; exact absurd hlt (by have := L7.size; have := hg5_7_1; omega))
   refine G.nil (E.thenN (WC.region (W.run 1 rfl ?_)))
   refine W.a (.field0 fa85_0 rfl) ?_
   have f65 := (f62.ch h13_11 (fun h => (show g5_7_1 ≠ g4_2 from by have := b4_3.lt; omega) (oI h)))
   refine W.r (.loadB (v := .int .i64 ((legs.getD k noLeg).ch)) na3 rfl f65 rfl) ?_
   refine W.r (.loadAll ag60 (by rfl) rfl b13_11) ?_
   have f66 := ((((((f33.le h5_7_1).ch h5_8_1 (fun h => (show g5_7_1 ≠ g1_4 from by have := f33.lt; omega) (oI h))).le (h6_16_1.trans (d10.trans d12))).ch h12_10 (fun h => (show g5_7_1 ≠ g1_4 from by have := f33.lt; omega) (oI h))).le d13).ch h13_11 (fun h => (show g5_7_1 ≠ g1_4 from by have := f33.lt; omega) (oI h)))
   refine W.ef0 rfl rfl ?_
   refine Ef.updateG (key := ((legs.getD k noLeg).ch)) (u := ((vhk5_3.setH (((legs.getD k noLeg).side).toNat) ((vhk5_3.h (((legs.getD k noLeg).side).toNat)) - ((legs.getD k noLeg).am))).setH (((1 - ((legs.getD k noLeg).side))).toNat) (((vhk5_3.setH (((legs.getD k noLeg).side).toNat) ((vhk5_3.h (((legs.getD k noLeg).side).toNat)) - ((legs.getD k noLeg).am))).h (((1 - ((legs.getD k noLeg).side))).toNat)) + ((legs.getD k noLeg).am)))) underlying97 kint rfl rfl rfl f66 stay_i (hk5_3) ?_
   intro w14_4 b14_4 h14_4
   have L67 : ChP w w14_4 (LF gp gs gh A c) := L64.ch h14_4 (fun i hi hlt => by cases hi; exact absurd hlt (by have := L0.size; have := hg1_4; omega))
   refine W.nil (E.blkN (E.thenN (WC.region ?_)))
   refine W.a (.add rfl rfl (by omega)) ?_
   refine W.run 1 rfl (W.nil ?_)
   have f68 := (((((((((f0_0.le h4_2).ch h4_3 (fun h => (show g4_2 ≠ gp from by have := f0_0.lt; omega) (oI h))).le h5_7_1).ch h5_8_1 (fun h => (show g5_7_1 ≠ gp from by have := f0_0.lt; have := h4_2.size; have := h4_3.size; omega) (oI h))).le (h6_16_1.trans (d10.trans d12))).ch h12_10 (fun h => (show g5_7_1 ≠ gp from by have := f0_0.lt; have := h4_2.size; have := h4_3.size; omega) (oI h))).le d13).ch h13_11 (fun h => (show g5_7_1 ≠ gp from by have := f0_0.lt; have := h4_2.size; have := h4_3.size; omega) (oI h))).ch h14_4 (fun h => (show g1_4 ≠ gp from by have := hp0.lt; omega) (oI h)))
   have f69 := (((((((((f0_1.le h4_2).ch h4_3 (fun q hq => by cases hq; exact (fun he => by have := (f0_1.row he).2; omega))).le h5_7_1).ch h5_8_1 (fun q hq => by cases hq; exact (fun he => by have := (f0_1.row he).2; have := h4_2.size; have := h4_3.size; omega))).le (h6_16_1.trans (d10.trans d12))).ch h12_10 (fun q hq => by cases hq; exact (fun he => by have := (f0_1.row he).2; have := h4_2.size; have := h4_3.size; omega))).le d13).ch h13_11 (fun q hq => by cases hq; exact (fun he => by have := (f0_1.row he).2; have := h4_2.size; have := h4_3.size; omega))).ch h14_4 (fun q hq => by cases hq; exact (fun he => by have := (hO0.row he).2; omega)))
   have f70 := (((((((((f0_2.le h4_2).ch h4_3 (fun h => (show g4_2 ≠ gs from by have := f0_2.lt; omega) (oI h))).le h5_7_1).ch h5_8_1 (fun h => (show g5_7_1 ≠ gs from by have := f0_2.lt; have := h4_2.size; have := h4_3.size; omega) (oI h))).le (h6_16_1.trans (d10.trans d12))).ch h12_10 (fun h => (show g5_7_1 ≠ gs from by have := f0_2.lt; have := h4_2.size; have := h4_3.size; omega) (oI h))).le d13).ch h13_11 (fun h => (show g5_7_1 ≠ gs from by have := f0_2.lt; have := h4_2.size; have := h4_3.size; omega) (oI h))).ch h14_4 (fun h => (show g1_4 ≠ gs from by have := hS0.lt; omega) (oI h)))
   have f71 := (((((((((f0_3.le h4_2).ch h4_3 (fun h => (show g4_2 ≠ gh from by have := f0_3.lt; omega) (oI h))).le h5_7_1).ch h5_8_1 (fun h => (show g5_7_1 ≠ gh from by have := f0_3.lt; have := h4_2.size; have := h4_3.size; omega) (oI h))).le (h6_16_1.trans (d10.trans d12))).ch h12_10 (fun h => (show g5_7_1 ≠ gh from by have := f0_3.lt; have := h4_2.size; have := h4_3.size; omega) (oI h))).le d13).ch h13_11 (fun h => (show g5_7_1 ≠ gh from by have := f0_3.lt; have := h4_2.size; have := h4_3.size; omega) (oI h))).ch h14_4 (fun h => (show g1_4 ≠ gh from by have := hH0.lt; omega) (oI h)))
   refine E.again (k + 1, (updM (legs.getD k noLeg).ch (legS vhk5_3 (legs.getD k noLeg)) lc)) (.cons rfl (.cons rfl (.cons rfl (.cons rfl (.cons rfl (.nil _)))))) ?_ ?_
   ·exact ⟨by omega, by rw [payTo_next (by omega), hpt]; unfold payF; rw [if_neg (by simp), if_neg (not_not_intro hlo), hk5_3]; simp only; rw [if_neg c3], updM_good hgc (legS_good hsg hlo c3), L67, by have := zl0; have := h4_2.size; have := h4_3.size; have := h5_7_1.size; have := h5_8_1.size; have := h6_16_1.size; have := d10.size; have := d12.size; have := h12_10.size; have := d13.size; have := h13_11.size; have := h14_4.size; omega, f68, f69, f70, f71, b14_4⟩
   first | omega | (simp only []; omega)
  refine WC.condY rfl (congrArg not ((Bool.eq_false_iff.2 c1))) ?_
  refine WC.sr (W.run 1 rfl (W.nx (WC.ret (E.blkR (E.thenR (E.blkR (E.thenR (E.thenR (E.blkR (E.thenR ?_))))))))))
  have f72 := (((((f0_0.le h4_2).ch h4_3 (fun h => (show g4_2 ≠ gp from by have := f0_0.lt; omega) (oI h))).le h5_7_1).ch h5_8_1 (fun h => (show g5_7_1 ≠ gp from by have := f0_0.lt; have := h4_2.size; have := h4_3.size; omega) (oI h))).le h6_16_1)
  have f73 := (((((f0_1.le h4_2).ch h4_3 (fun q hq => by cases hq; exact (fun he => by have := (f0_1.row he).2; omega))).le h5_7_1).ch h5_8_1 (fun q hq => by cases hq; exact (fun he => by have := (f0_1.row he).2; have := h4_2.size; have := h4_3.size; omega))).le h6_16_1)
  have f74 := (((((f0_2.le h4_2).ch h4_3 (fun h => (show g4_2 ≠ gs from by have := f0_2.lt; omega) (oI h))).le h5_7_1).ch h5_8_1 (fun h => (show g5_7_1 ≠ gs from by have := f0_2.lt; have := h4_2.size; have := h4_3.size; omega) (oI h))).le h6_16_1)
  have f75 := (((((f0_3.le h4_2).ch h4_3 (fun h => (show g4_2 ≠ gh from by have := f0_3.lt; omega) (oI h))).le h5_7_1).ch h5_8_1 (fun h => (show g5_7_1 ≠ gh from by have := f0_3.lt; have := h4_2.size; have := h4_3.size; omega) (oI h))).le h6_16_1)
  refine E.retG1 rfl rfl ?_
  have e9 : payTo ls (legs.take (k + 1)) = (lc, 1) := (by rw [payTo_next (by omega), hpt]; unfold payF; rw [if_neg (by simp)]; rw [if_pos (fun hh : legOk (legs.getD k noLeg) => by obtain ⟨⟨a1, a2⟩, a3, a4⟩ := hh; first | omega | (exact absurd (coin_iff.2 ⟨by omega, a4⟩) (by assumption)))]); have e8 : payTo ls legs = (lc, 1) := (by rw [payTo_err (k := k + 1) (by rw [e9]; simp), e9]); exact ⟨L49, .inl ⟨by rw [e8]; simp, by rw [e8], ⟨f72, f73, f74, f75, n1, n2, n3, n4, n5, n6⟩⟩⟩
 refine WC.condN rfl (decide_eq_false c0) ?_
 refine WC.exit (E.thenX (E.thenX (E.blkH (E.thenN (WC.sr (W.run 2 rfl ?_))))))
 refine W.a (.nilCheck rfl) ?_
 refine W.a (.field0 fa100_1 rfl) ?_
 refine W.ef0 rfl rfl ?_
 refine Ef.store sz97 rfl rfl f0_0 (by first | decide | (simp; done)) (rfl) ?_
 intro w16_4 b16_4 h16_4
 have b16_4 : Blk w16_4 gp 100 #[.slice A own.length c, .map (some g1_4), .map (some gh), .int .i64 (lost)] := b16_4
 have L76 : ChP w w16_4 (LF gp gs gh A c) := Ll0.ch h16_4 (fun i hi _ => by cases hi; exact Or.inl rfl)
 refine W.nx (WC.sr (W.run 1 rfl (W.nx (WC.ret ?_))))
 have f77 := (f0_1.ch h16_4 (fun q hq => by cases hq; exact n4))
 have f78 := (f0_4.ch h16_4 (fun h => (show gp ≠ g1_4 from by have := hp0.lt; omega) (oI h)))
 have f79 := (f0_3.ch h16_4 (fun h => n2 (oI h)))
 refine E.retG1 rfl rfl ?_
 have e8 : payTo ls legs = (lc, 0) := (by rw [List.take_of_length_le (by omega)] at hpt; exact hpt); exact ⟨L76, .inr ⟨by rw [e8], rfl, g1_4, (by have := hg1_4; have := L0.size; omega), (by rw [e8]; exact ⟨b16_4, f77, f78, f79, (show gp ≠ g1_4 from by have := hp0.lt; omega), n2, (show g1_4 ≠ gh from by have := hH0.lt; omega), n4, (fun he => by have := (hO0.row he).2; omega), n6⟩)⟩⟩
end Go.Proofs.YtgpaekbdbpkogaaGreat

