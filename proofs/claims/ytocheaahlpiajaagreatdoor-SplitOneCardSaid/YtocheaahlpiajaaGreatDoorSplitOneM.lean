/- SplitOne: for every input the law answers true and leaves its arguments as they were. -/
import Derived.Test.YtocheaahlpiajaaGreatDoorSplitOneL
import Derived.Lib.Mul64
set_option linter.unusedVariables false
set_option linter.unusedSimpArgs false
namespace Go.Proofs.YtocheaahlpiajaaGreatDoor
open Tryz
open Go Go.Sx
set_option maxRecDepth 20000
theorem mul64_ok (x y : Nat) (hx : x < 18446744073709551616) (hy : y < 18446744073709551616) (w : World) : Calls prog 302 #[.int .u64 ((x : Nat) : Int), .int .u64 ((y : Nat) : Int)] w fun e w' => e = .returned (.tuple #[.int .u64 ((x * y / 18446744073709551616 : Nat) : Int), .int .u64 ((x * y % 18446744073709551616 : Nat) : Int)]) /\ Le w w' := by
 obtain ⟨h1, h2, h3, h4⟩ := Go.Lib.mul64_hi x y hx hy
 have h5 : x * y / 18446744073709551616 < 18446744073709551616 := by
  rw [Nat.div_lt_iff_lt_mul (by decide)]
  exact Nat.mul_lt_mul'' hx hy
 have ha := Go.Lib.half_mul_le (a := x / 4294967296) (b := y / 4294967296) (by omega) (by omega)
 have hb := Go.Lib.half_mul_le (a := x / 4294967296) (b := y % 4294967296) (by omega) (by omega)
 have hc := Go.Lib.half_mul_le (a := x % 4294967296) (b := y / 4294967296) (by omega) (by omega)
 refine enter func302 rfl rfl ?_
 have L0 := Le.refl w
 refine WC.sr (W.run 2 rfl (W.nx (WC.sr (W.run 1 rfl ?_))))
 refine W.a (.andE (x) (4294967295) (x % 4294967296) rfl rfl rfl rfl (by omega) (by omega) (mask32 _)) ?_
 refine W.run 1 rfl (W.nx (WC.sr (W.run 1 rfl ?_)))
 refine W.a (.shrE (x) (32) (x / 4294967296) rfl rfl rfl rfl (by decide) (rfl)) ?_
 refine W.run 1 rfl (W.nx (WC.sr (W.run 1 rfl ?_)))
 refine W.a (.andE (y) (4294967295) (y % 4294967296) rfl rfl rfl rfl (by omega) (by omega) (mask32 _)) ?_
 refine W.run 1 rfl (W.nx (WC.sr (W.run 1 rfl ?_)))
 refine W.a (.shrE (y) (32) (y / 4294967296) rfl rfl rfl rfl (by decide) (rfl)) ?_
 refine W.run 1 rfl (W.nx (WC.sr (W.run 2 rfl ?_)))
 refine W.a (.mulN (x % 4294967296) (y % 4294967296) ((x % 4294967296) * (y % 4294967296)) rfl rfl rfl rfl (Nat.mod_eq_of_lt h1)) ?_
 refine W.run 1 rfl (W.nx (WC.sr (W.run 2 rfl ?_)))
 refine W.a (.mulN (x / 4294967296) (y % 4294967296) ((x / 4294967296) * (y % 4294967296)) rfl rfl rfl rfl (Nat.mod_eq_of_lt (by omega))) ?_
 refine W.run 1 rfl ?_
 refine W.a (.shrE ((x % 4294967296) * (y % 4294967296)) (32) ((x % 4294967296) * (y % 4294967296) / 4294967296) rfl rfl rfl rfl (by decide) (rfl)) ?_
 refine W.a (.addN ((x / 4294967296) * (y % 4294967296)) ((x % 4294967296) * (y % 4294967296) / 4294967296) ((x / 4294967296) * (y % 4294967296) + (x % 4294967296) * (y % 4294967296) / 4294967296) rfl rfl rfl rfl (Nat.mod_eq_of_lt h2)) ?_
 refine W.run 1 rfl (W.nx (WC.sr (W.run 1 rfl ?_)))
 refine W.a (.andE ((x / 4294967296) * (y % 4294967296) + (x % 4294967296) * (y % 4294967296) / 4294967296) (4294967295) (((x / 4294967296) * (y % 4294967296) + (x % 4294967296) * (y % 4294967296) / 4294967296) % 4294967296) rfl rfl rfl rfl (by omega) (by omega) (mask32 _)) ?_
 refine W.run 1 rfl (W.nx (WC.sr (W.run 1 rfl ?_)))
 refine W.a (.shrE ((x / 4294967296) * (y % 4294967296) + (x % 4294967296) * (y % 4294967296) / 4294967296) (32) (((x / 4294967296) * (y % 4294967296) + (x % 4294967296) * (y % 4294967296) / 4294967296) / 4294967296) rfl rfl rfl rfl (by decide) (rfl)) ?_
 refine W.run 1 rfl (W.nx (WC.sr (W.run 3 rfl ?_)))
 refine W.a (.mulN (x % 4294967296) (y / 4294967296) ((x % 4294967296) * (y / 4294967296)) rfl rfl rfl rfl (Nat.mod_eq_of_lt (by omega))) ?_
 refine W.a (.addN (((x / 4294967296) * (y % 4294967296) + (x % 4294967296) * (y % 4294967296) / 4294967296) % 4294967296) ((x % 4294967296) * (y / 4294967296)) (((x / 4294967296) * (y % 4294967296) + (x % 4294967296) * (y % 4294967296) / 4294967296) % 4294967296 + (x % 4294967296) * (y / 4294967296)) rfl rfl rfl rfl (Nat.mod_eq_of_lt h3)) ?_
 refine W.run 1 rfl (W.nx (WC.sr (W.run 2 rfl ?_)))
 refine W.a (.mulN (x / 4294967296) (y / 4294967296) ((x / 4294967296) * (y / 4294967296)) rfl rfl rfl rfl (Nat.mod_eq_of_lt (by omega))) ?_
 refine W.run 1 rfl ?_
 refine W.a (.addN ((x / 4294967296) * (y / 4294967296)) (((x / 4294967296) * (y % 4294967296) + (x % 4294967296) * (y % 4294967296) / 4294967296) / 4294967296) ((x / 4294967296) * (y / 4294967296) + ((x / 4294967296) * (y % 4294967296) + (x % 4294967296) * (y % 4294967296) / 4294967296) / 4294967296) rfl rfl rfl rfl (Nat.mod_eq_of_lt (by omega))) ?_
 refine W.run 1 rfl ?_
 refine W.a (.shrE (((x / 4294967296) * (y % 4294967296) + (x % 4294967296) * (y % 4294967296) / 4294967296) % 4294967296 + (x % 4294967296) * (y / 4294967296)) (32) ((((x / 4294967296) * (y % 4294967296) + (x % 4294967296) * (y % 4294967296) / 4294967296) % 4294967296 + (x % 4294967296) * (y / 4294967296)) / 4294967296) rfl rfl rfl rfl (by decide) (rfl)) ?_
 refine W.a (.addN ((x / 4294967296) * (y / 4294967296) + ((x / 4294967296) * (y % 4294967296) + (x % 4294967296) * (y % 4294967296) / 4294967296) / 4294967296) ((((x / 4294967296) * (y % 4294967296) + (x % 4294967296) * (y % 4294967296) / 4294967296) % 4294967296 + (x % 4294967296) * (y / 4294967296)) / 4294967296) (x * y / 18446744073709551616) rfl rfl rfl rfl ((Nat.mod_eq_of_lt (by rw [h4]; exact h5)).trans h4)) ?_
 refine W.run 1 rfl (W.nx (WC.sr (W.run 2 rfl ?_)))
 refine W.a (.mulN (x) (y) (x * y % 18446744073709551616) rfl rfl rfl rfl (rfl)) ?_
 refine W.run 1 rfl (W.nx (WC.ret ?_))
 refine E.ret2 rfl rfl rfl ?_
 exact ⟨rfl, L0⟩

def tab8 : ByteArray := ⟨[0, 1, 2, 2, 3, 3, 3, 3, 4, 4, 4, 4, 4, 4, 4, 4, 5, 5, 5, 5, 5, 5, 5, 5, 5, 5, 5, 5, 5, 5, 5, 5, 6, 6, 6, 6, 6, 6, 6, 6, 6, 6, 6, 6, 6, 6, 6, 6, 6, 6, 6, 6, 6, 6, 6, 6, 6, 6, 6, 6, 6, 6, 6, 6, 7, 7, 7, 7, 7, 7, 7, 7, 7, 7, 7, 7, 7, 7, 7, 7, 7, 7, 7, 7, 7, 7, 7, 7, 7, 7, 7, 7, 7, 7, 7, 7, 7, 7, 7, 7, 7, 7, 7, 7, 7, 7, 7, 7, 7, 7, 7, 7, 7, 7, 7, 7, 7, 7, 7, 7, 7, 7, 7, 7, 7, 7, 7, 7, 8, 8, 8, 8, 8, 8, 8, 8, 8, 8, 8, 8, 8, 8, 8, 8, 8, 8, 8, 8, 8, 8, 8, 8, 8, 8, 8, 8, 8, 8, 8, 8, 8, 8, 8, 8, 8, 8, 8, 8, 8, 8, 8, 8, 8, 8, 8, 8, 8, 8, 8, 8, 8, 8, 8, 8, 8, 8, 8, 8, 8, 8, 8, 8, 8, 8, 8, 8, 8, 8, 8, 8, 8, 8, 8, 8, 8, 8, 8, 8, 8, 8, 8, 8, 8, 8, 8, 8, 8, 8, 8, 8, 8, 8, 8, 8, 8, 8, 8, 8, 8, 8, 8, 8, 8, 8, 8, 8, 8, 8, 8, 8, 8, 8, 8, 8, 8, 8, 8, 8, 8, 8, 8, 8, 8, 8, 8, 8].toArray⟩

theorem len8 : ∀ m, 16 <= m -> m < 64 -> tab8[m]? = some (if m < 32 then 5 else 6) := by
  have h : ∀ m : Fin 64, 16 <= m.val -> tab8[m.val]? = some (if m.val < 32 then 5 else 6) := by decide +kernel
  exact fun m h1 h2 => h ⟨m, h2⟩ h1

theorem len64_ok (y : Nat) (h1 : 1152921504606846976 <= y) (h2 : y < 4611686018427387904) (w : World) : Calls prog 326 #[.int .u64 ((y : Nat) : Int)] w fun e w' => e = .returned (.int .i64 (if y < 2305843009213693952 then 61 else 62)) /\ Le w w' := by
 refine enter func326 rfl rfl ?_
 have L0 := Le.refl w
 refine WC.sr (W.run 1 rfl (W.nx (WC.seq (WC.sr (W.run 2 rfl (W.nx ?_))))))
 refine WC.condB rfl (fun _ => ?_) (fun h => absurd h (by simp; omega))
 refine WC.sr (W.run 1 rfl ?_)
 refine W.a (.shrE (y) (32) (y / 4294967296) rfl rfl rfl rfl (by decide) (rfl)) ?_
 refine W.run 1 rfl (W.nx (WC.region (W.run 1 rfl (W.nx (WC.seq (WC.sr (W.run 2 rfl (W.nx ?_))))))))
 refine WC.condB rfl (fun _ => ?_) (fun h => absurd h (by simp; omega))
 refine WC.sr (W.run 1 rfl ?_)
 refine W.a (.shrE (y / 4294967296) (16) (y / 281474976710656) rfl rfl rfl rfl (by decide) (by omega)) ?_
 refine W.run 1 rfl (W.nx (WC.region (W.run 1 rfl ?_)))
 refine W.a (.add rfl rfl (by omega)) ?_
 refine W.run 1 rfl (W.nx (WC.seq (WC.sr (W.run 2 rfl (W.nx ?_)))))
 refine WC.condB rfl (fun _ => ?_) (fun h => absurd h (by simp; omega))
 refine WC.sr (W.run 1 rfl ?_)
 refine W.a (.shrE (y / 281474976710656) (8) (y / 72057594037927936) rfl rfl rfl rfl (by decide) (by omega)) ?_
 refine W.run 1 rfl (W.nx (WC.region (W.run 1 rfl ?_)))
 refine W.a (.add rfl rfl (by omega)) ?_
 refine W.run 1 rfl (W.nx (WC.sr (W.run 2 rfl ?_)))
 refine W.r (.toU8 (y / 72057594037927936) (isS underlying27) underlying5 rfl rfl) ?_
 refine W.a (.idxStr (y / 72057594037927936) (if y / 72057594037927936 < 32 then 5 else 6) underlying9 rfl rfl (by rw [BitVec.toNat_ofNat, Nat.mod_eq_of_lt (by omega)]) (len8 (y / 72057594037927936) (by omega) (by omega))) ?_
 refine W.r (.idI (isS underlying5) underlying3 rfl (IntWalk.i64_in _ (by split <;> decide))) ?_
 refine W.a (.add rfl rfl (by split <;> decide)) ?_
 refine W.run 1 rfl (W.nx (WC.ret ?_))
 refine E.ret1 rfl rfl ?_
 exact ⟨by congr 2; split <;> split <;> simp_all <;> omega, L0⟩

theorem lz64_ok (y : Nat) (h1 : 1152921504606846976 <= y) (h2 : y < 4611686018427387904) (w : World) : Calls prog 334 #[.int .u64 ((y : Nat) : Int)] w fun e w' => e = .returned (.int .i64 (if y < 2305843009213693952 then 3 else 2)) /\ Le w w' := by
 refine enter func334 rfl rfl ?_
 have L0 := Le.refl w
 refine WC.sr (W.run 1 rfl (W.nx (WC.sr (W.run 1 rfl ?_))))
 refine W.cl go326 rfl rfl (len64_ok y h1 h2 w) ?_
 rintro _ w1_1 ⟨rfl, h1_1⟩
 have L1_1 := L0.trans h1_1
 refine W.a (.sub rfl rfl (by split <;> omega)) ?_
 refine W.run 1 rfl (W.nx (WC.ret ?_))
 refine E.ret1 rfl rfl ?_
 exact ⟨by congr 2; split <;> rfl, L1_1⟩

theorem div64_ok2 (h l y : Nat) (h1 : 2305843009213693952 <= y) (h2 : y < 4611686018427387904) (hh : h < y) (hl : l < 18446744073709551616) (w : World) : Calls prog 301 #[.int .u64 ((h : Nat) : Int), .int .u64 ((l : Nat) : Int), .int .u64 ((y : Nat) : Int)] w fun e w' => ∃ qq : Int, e = .returned (.tuple #[.int .u64 qq, .int .u64 (((h * 18446744073709551616 + l) % y : Nat) : Int)]) /\ Le w w' := by
 obtain ⟨Y, hYd⟩ : ∃ Y, Y = y * 4 := ⟨_, rfl⟩
 obtain ⟨a, ha⟩ : ∃ a, a = Y / 4294967296 := ⟨_, rfl⟩
 obtain ⟨b, hb0⟩ : ∃ b, b = Y % 4294967296 := ⟨_, rfl⟩
 obtain ⟨U, hUd⟩ : ∃ U, U = h * 4 + l / 4611686018427387904 := ⟨_, rfl⟩
 obtain ⟨v, hv⟩ : ∃ v, v = l * 4 % 18446744073709551616 := ⟨_, rfl⟩
 obtain ⟨e1, he1⟩ : ∃ e1, e1 = v / 4294967296 := ⟨_, rfl⟩
 obtain ⟨e0, he0⟩ : ∃ e0, e0 = v % 4294967296 := ⟨_, rfl⟩
 have hY : Y = a * 4294967296 + b := by omega
 have hYlo : 9223372036854775808 <= Y := by omega
 have hYhi : Y < 18446744073709551616 := by omega
 have ha1 : 2147483648 <= a := by omega
 have ha2 : a < 4294967296 := by omega
 have hb1 : b < 4294967296 := by omega
 have hv2 : v < 18446744073709551616 := by omega
 have he12 : e1 < 4294967296 := by omega
 have he02 : e0 < 4294967296 := by omega
 have hU : U < Y := by omega
 obtain ⟨R, hR⟩ : ∃ R, R = (U * 4294967296 + e1) % Y := ⟨_, rfl⟩
 obtain ⟨Q1, hQ1⟩ : ∃ Q1, Q1 = (U * 4294967296 + e1) / Y := ⟨_, rfl⟩
 obtain ⟨Q2, hQ2⟩ : ∃ Q2, Q2 = (R * 4294967296 + e0) / Y := ⟨_, rfl⟩
 have hRY : R < Y := by rw [hR]; exact Nat.mod_lt _ (by omega)
 have hfin : (R * 4294967296 + e0) % Y / 2 ^ 2 = (h * 18446744073709551616 + l) % y := div_fin2 h l y Y U v e1 e0 R hYd hUd hv he1 he0 hR (by omega)
 have hlz : ∀ w, Calls prog 334 #[.int .u64 ((y : Nat) : Int)] w (fun e w' => e = .returned (.int .i64 2) /\ Le w w') := fun w => by
  have := lz64_ok y (by omega) (by omega) w
  rw [if_neg (by omega)] at this
  exact this
 refine enter func301 rfl rfl ?_
 have L0 := Le.refl w
 refine WC.sr (W.run 2 rfl (W.nx (WC.seq (WC.sr (W.run 2 rfl (W.nx ?_))))))
 refine WC.condB rfl (fun h => absurd h (by simp; omega)) (fun _ => ?_)
 refine WC.sn (WC.seq (WC.sr (W.run 3 rfl (W.nx ?_))))
 refine WC.condB rfl (fun h => absurd h (by simp; omega)) (fun _ => ?_)
 refine WC.sn (WC.seq (WC.sr (W.run 2 rfl (W.nx ?_))))
 refine WC.cond rfl (fun c2 => ?_) (fun c2 => ?_)
 ·have h0 : h = 0 := by omega
  subst h0
  refine WC.seq ?_
  refine WC.draw [0, 1, 2, 3, 4, 5, 6, 7] mixed (by kernel_rfl) ?_
  intro w6 d6
  have L6 := L0.trans d6
  refine G.run 2 rfl ?_
  refine G.a rfl (.quoN (l) (y) (l / y) rfl rfl rfl rfl (by omega) (by omega) (rfl)) ?_
  refine G.run 2 rfl ?_
  refine G.a rfl (.remN (l) (y) (l % y) rfl rfl rfl rfl (by omega) (rfl)) ?_
  refine G.run 2 rfl (G.nil (E.thenN (WC.ret (E.thenR ?_))))
  refine E.ret2 rfl rfl rfl ?_
  exact ⟨_, by rw [Nat.zero_mul, Nat.zero_add], L6⟩
 refine WC.sn (WC.sr (W.run 1 rfl ?_))
 refine W.cl go334 rfl rfl (hlz w) ?_
 rintro _ w7_1 ⟨rfl, h7_1⟩
 have L7_1 := L0.trans h7_1
 refine W.r (.idI (isS underlying3) underlying287 rfl (IntWalk.u64_in _ (by decide))) ?_
 refine W.run 1 rfl (W.nx (WC.sr (W.run 2 rfl ?_)))
 refine W.a (.shlN (y) (2) (Y) rfl rfl rfl rfl (by decide) (by omega)) ?_
 refine W.run 1 rfl (W.nx (WC.sr (W.run 1 rfl ?_)))
 refine W.a (.shrE (Y) (32) (a) rfl rfl rfl rfl (by decide) (by omega)) ?_
 refine W.run 1 rfl (W.nx (WC.sr (W.run 1 rfl ?_)))
 refine W.a (.andE (Y) (4294967295) (b) rfl rfl rfl rfl (by omega) (by omega) ((mask32 _).trans hb0.symm)) ?_
 refine W.run 1 rfl (W.nx (WC.sr (W.run 2 rfl ?_)))
 refine W.a (.shlN (h) (2) (h * 4) rfl rfl rfl rfl (by decide) (by omega)) ?_
 refine W.run 2 rfl ?_
 refine W.a (.subN (64) (2) (62) rfl rfl rfl rfl (by decide) (by decide)) ?_
 refine W.a (.shrE (l) (62) (l / 4611686018427387904) rfl rfl rfl rfl (by decide) (rfl)) ?_
 refine W.a (.orE (h * 4) (l / 4611686018427387904) (U) rfl rfl rfl rfl (by omega) (by omega) (by rw [hUd, Nat.mul_comm h, show (4 : Nat) = 2 ^ 2 by decide]; exact (Nat.two_pow_add_eq_or_of_lt (by omega) _).symm)) ?_
 refine W.run 1 rfl (W.nx (WC.sr (W.run 2 rfl ?_)))
 refine W.a (.shlN (l) (2) (v) rfl rfl rfl rfl (by decide) (hv.symm)) ?_
 refine W.run 1 rfl (W.nx (WC.sr (W.run 1 rfl ?_)))
 refine W.a (.shrE (v) (32) (e1) rfl rfl rfl rfl (by decide) (by omega)) ?_
 refine W.run 1 rfl (W.nx (WC.sr (W.run 1 rfl ?_)))
 refine W.a (.andE (v) (4294967295) (e0) rfl rfl rfl rfl (by omega) (by omega) ((mask32 _).trans he0.symm)) ?_
 refine W.run 1 rfl (W.nx (WC.sr (W.run 2 rfl ?_)))
 refine W.a (.quoN (U) (a) (U / a) rfl rfl rfl rfl (by omega) (by omega) (rfl)) ?_
 refine W.run 1 rfl (W.nx (WC.sr (W.run 3 rfl ?_)))
 refine W.a (.mulN (U / a) (a) (U / a * a) rfl rfl rfl rfl (Nat.mod_eq_of_lt (Nat.lt_of_le_of_lt (Nat.div_mul_le_self _ _) (by omega)))) ?_
 refine W.a (.subN (U) (U / a * a) (U % a) rfl rfl rfl rfl (Nat.le_trans (Nat.div_mul_le_self _ _) (by omega)) (sub_div U a (by omega))) ?_
 refine W.run 1 rfl (W.nx ?_)
 refine WC.cut (ι := Unit) (fun () => [(2, .int .u64 ((Y : Nat) : Int)), (8, .int .u64 (2 : Int)), (9, .int .u64 ((a : Nat) : Int)), (10, .int .u64 ((b : Nat) : Int)), (11, .int .u64 ((U : Nat) : Int)), (13, .int .u64 ((e1 : Nat) : Int)), (14, .int .u64 ((e0 : Nat) : Int)), (15, .int .u64 ((Q1 : Nat) : Int))]) (fun () wc15 => Le w wc15) ?_ ?_
 ·refine WC.block ?_
  refine WC.loop (ι := Nat × Nat) (fun ⟨qh, rh⟩ => [(2, .int .u64 ((Y : Nat) : Int)), (8, .int .u64 (2 : Int)), (9, .int .u64 ((a : Nat) : Int)), (10, .int .u64 ((b : Nat) : Int)), (11, .int .u64 ((U : Nat) : Int)), (13, .int .u64 ((e1 : Nat) : Int)), (14, .int .u64 ((e0 : Nat) : Int)), (15, .int .u64 ((qh : Nat) : Int)), (16, .int .u64 ((rh : Nat) : Int))]) (fun ⟨qh, rh⟩ wl => Le w wl /\ qh * a + rh = U /\ Q1 <= qh /\ rh < 4294967296 /\ qh <= 4294967297) (fun ⟨qh, rh⟩ => qh) (U / a, U % a) ?_ ?_ ?_
  ·exact .cons rfl (.cons rfl (.cons rfl (.cons rfl (.cons rfl (.cons rfl (.cons rfl (.cons rfl (.cons rfl (.nil _)))))))))
  ·exact ⟨L7_1, by rw [Nat.mul_comm]; exact Nat.div_add_mod _ _, by rw [hQ1]; exact dig_start hY (by omega) hU (by omega), Nat.lt_of_lt_of_le (Nat.mod_lt _ (by omega)) (by omega), dig_first hY (by omega) (by omega) hU⟩
  rintro ⟨qh, rh⟩ wl ⟨Ll, hi, hq, hr, hq2⟩
  refine WC.seq (WC.sr (W.run 2 rfl ?_))
  by_cases hb : 4294967296 <= qh
  ·refine W.run 1 rfl ?_
   refine W.skip rfl rfl rfl (decide_eq_true (by omega)) rfl rfl ?_
   refine W.skip rfl rfl rfl (decide_eq_true (by omega)) rfl rfl ?_
   refine W.skip rfl rfl rfl (decide_eq_true (by omega)) rfl rfl ?_
   refine W.skip rfl rfl rfl (decide_eq_true (by omega)) rfl rfl ?_
   refine W.skip rfl rfl rfl (decide_eq_true (by omega)) rfl rfl ?_
   refine W.skip rfl rfl rfl (decide_eq_true (by omega)) rfl rfl ?_
   refine W.skip rfl rfl rfl (decide_eq_true (by omega)) rfl rfl ?_
   refine W.skip rfl rfl rfl (decide_eq_true (by omega)) rfl rfl ?_
   refine W.a (.pickT rfl (decide_eq_true (by omega)) rfl) ?_
   have hgt : Q1 < qh := by rw [hQ1]; exact dig_gt hY hU (by omega) hi (by omega)
   have hd : qh * a = (qh - 1) * a + a := by rw [<- Nat.succ_mul]; congr 1; omega
   have hinv : (qh - 1) * a + (rh + a) = U := by omega
   refine W.nx (WC.condT rfl (WC.sn (WC.block (WC.sr (W.run 1 rfl ?_)))))
   refine W.a (.subN (qh) (1) (qh - 1) rfl rfl rfl rfl (by omega) (by omega)) ?_
   refine W.run 1 rfl (W.nx (WC.sr (W.run 2 rfl ?_)))
   refine W.a (.addN (rh) (a) (rh + a) rfl rfl rfl rfl (by omega)) ?_
   refine W.run 1 rfl (W.nx (WC.sr (W.run 2 rfl (W.nx ?_))))
   refine WC.cond rfl (fun c4 => ?_) (fun c4 => ?_)
   ·have hqe : qh - 1 = Q1 := Nat.le_antisymm (by rw [hQ1]; exact dig_brk hY (by omega) hb1 hinv (by omega) (by omega)) (by omega)
    refine WC.exit (E.blkX rfl (E.thenX (E.blkH ?_)))
    refine E.meet () (.cons rfl (.cons rfl (.cons rfl (.cons rfl (.cons rfl (.cons rfl (.cons rfl (.cons' rfl (int_eq (by rw [hqe])) (.nil _))))))))) ?_
    exact Ll
   refine WC.skip (E.blkN ?_)
   refine E.again (qh - 1, rh + a) (.cons rfl (.cons rfl (.cons rfl (.cons rfl (.cons rfl (.cons rfl (.cons rfl (.cons rfl (.cons rfl (.nil _)))))))))) ?_ ?_
   ·exact ⟨Ll, hinv, by omega, by omega, by omega⟩
   first | omega | (simp only []; omega)
  refine W.run 1 rfl ?_
  refine W.rdg (Any.rd (.move rfl) _) rfl rfl rfl (decide_eq_false (by omega)) rfl rfl ?_
  refine W.rdg (Any.rd (.move rfl) _) rfl rfl rfl (decide_eq_false (by omega)) rfl rfl ?_
  have hqb : qh * b < 18446744073709551616 := Nat.lt_of_le_of_lt (Nat.mul_le_mul (show qh <= 4294967295 by omega) (show b <= 4294967295 by omega)) (by decide)
  refine W.rdg (Any.rd (.mulN (qh) (b) (qh * b) rfl rfl rfl rfl (Nat.mod_eq_of_lt hqb)) _) rfl rfl rfl (decide_eq_false (by omega)) rfl rfl ?_
  refine W.rdg (Any.rd (.move rfl) _) rfl rfl rfl (decide_eq_false (by omega)) rfl rfl ?_
  refine W.rdg (Any.rd (.mulN (4294967296) (rh) (4294967296 * rh) rfl rfl rfl rfl (by omega)) _) rfl rfl rfl (decide_eq_false (by omega)) rfl rfl ?_
  refine W.rdg (Any.rd (.move rfl) _) rfl rfl rfl (decide_eq_false (by omega)) rfl rfl ?_
  refine W.rdg (Any.rd (.addN (4294967296 * rh) (e1) (4294967296 * rh + e1) rfl rfl rfl rfl (by omega)) _) rfl rfl rfl (decide_eq_false (by omega)) rfl rfl ?_
  refine W.rdg (Any.rd (.gtr rfl rfl) _) rfl rfl rfl (decide_eq_false (by omega)) rfl rfl ?_
  refine W.a (.pickF rfl (decide_eq_false (by omega)) rfl) ?_
  refine W.nx ?_
  refine WC.cond rfl (fun c3 => ?_) (fun c3 => ?_)
  ·have hgt : Q1 < qh := by rw [hQ1]; exact dig_gt hY hU (by omega) hi (by omega)
   have hd : qh * a = (qh - 1) * a + a := by rw [<- Nat.succ_mul]; congr 1; omega
   have hinv : (qh - 1) * a + (rh + a) = U := by omega
   refine WC.sn (WC.block (WC.sr (W.run 1 rfl ?_)))
   refine W.a (.subN (qh) (1) (qh - 1) rfl rfl rfl rfl (by omega) (by omega)) ?_
   refine W.run 1 rfl (W.nx (WC.sr (W.run 2 rfl ?_)))
   refine W.a (.addN (rh) (a) (rh + a) rfl rfl rfl rfl (by omega)) ?_
   refine W.run 1 rfl (W.nx (WC.sr (W.run 2 rfl (W.nx ?_))))
   refine WC.cond rfl (fun c4 => ?_) (fun c4 => ?_)
   ·have hqe : qh - 1 = Q1 := Nat.le_antisymm (by rw [hQ1]; exact dig_brk hY (by omega) hb1 hinv (by omega) (by omega)) (by omega)
    refine WC.exit (E.blkX rfl (E.thenX (E.blkH ?_)))
    refine E.meet () (.cons rfl (.cons rfl (.cons rfl (.cons rfl (.cons rfl (.cons rfl (.cons rfl (.cons' rfl (int_eq (by rw [hqe])) (.nil _))))))))) ?_
    exact Ll
   refine WC.skip (E.blkN ?_)
   refine E.again (qh - 1, rh + a) (.cons rfl (.cons rfl (.cons rfl (.cons rfl (.cons rfl (.cons rfl (.cons rfl (.cons rfl (.cons rfl (.nil _)))))))))) ?_ ?_
   ·exact ⟨Ll, hinv, by omega, by omega, by omega⟩
   first | omega | (simp only []; omega)
  have hqe : qh = Q1 := Nat.le_antisymm (by rw [hQ1]; exact dig_le hY (by omega) hi (by omega)) hq
  refine WC.exit (E.thenX (E.thenX (E.blkH ?_)))
  refine E.meet () (.cons rfl (.cons rfl (.cons rfl (.cons rfl (.cons rfl (.cons rfl (.cons rfl (.cons' rfl (int_eq (by rw [hqe])) (.nil _))))))))) ?_
  exact Ll
 rintro ⟨⟩ wc15 Lc15
 refine WC.sr (W.run 1 rfl ?_)
 refine W.a (.mulN (U) (4294967296) (U * 4294967296 % 18446744073709551616) rfl rfl rfl rfl (rfl)) ?_
 refine W.run 1 rfl ?_
 refine W.a (.addN (U * 4294967296 % 18446744073709551616) (e1) ((U * 4294967296 + e1) % 18446744073709551616) rfl rfl rfl rfl (by rw [Nat.mod_add_mod])) ?_
 refine W.run 2 rfl ?_
 refine W.a (.mulN (Q1) (Y) (Q1 * Y % 18446744073709551616) rfl rfl rfl rfl (rfl)) ?_
 refine W.a (.subN ((U * 4294967296 + e1) % 18446744073709551616) (Q1 * Y % 18446744073709551616) (R) rfl rfl rfl rfl (Nat.le_of_lt (Nat.mod_lt _ (by decide))) ((dig_rest Y _ _ hQ1 (by omega) (by omega)).trans hR.symm)) ?_
 refine W.run 1 rfl (W.nx (WC.sr (W.run 2 rfl ?_)))
 refine W.a (.quoN (R) (a) (R / a) rfl rfl rfl rfl (by omega) (by omega) (rfl)) ?_
 refine W.run 1 rfl (W.nx (WC.sr (W.run 3 rfl ?_)))
 refine W.a (.mulN (R / a) (a) (R / a * a) rfl rfl rfl rfl (Nat.mod_eq_of_lt (Nat.lt_of_le_of_lt (Nat.div_mul_le_self _ _) (by omega)))) ?_
 refine W.a (.subN (R) (R / a * a) (R % a) rfl rfl rfl rfl (Nat.le_trans (Nat.div_mul_le_self _ _) (by omega)) (sub_div R a (by omega))) ?_
 refine W.run 1 rfl (W.nx ?_)
 refine WC.cut (ι := Unit) (fun () => [(2, .int .u64 ((Y : Nat) : Int)), (8, .int .u64 (2 : Int)), (9, .int .u64 ((a : Nat) : Int)), (10, .int .u64 ((b : Nat) : Int)), (14, .int .u64 ((e0 : Nat) : Int)), (17, .int .u64 ((R : Nat) : Int)), (15, .int .u64 ((Q1 : Nat) : Int)), (18, .int .u64 ((Q2 : Nat) : Int))]) (fun () wc18 => Le w wc18) ?_ ?_
 ·refine WC.block ?_
  refine WC.loop (ι := Nat × Nat) (fun ⟨qh, rh⟩ => [(2, .int .u64 ((Y : Nat) : Int)), (8, .int .u64 (2 : Int)), (9, .int .u64 ((a : Nat) : Int)), (10, .int .u64 ((b : Nat) : Int)), (14, .int .u64 ((e0 : Nat) : Int)), (17, .int .u64 ((R : Nat) : Int)), (15, .int .u64 ((Q1 : Nat) : Int)), (18, .int .u64 ((qh : Nat) : Int)), (16, .int .u64 ((rh : Nat) : Int))]) (fun ⟨qh, rh⟩ wl => Le w wl /\ qh * a + rh = R /\ Q2 <= qh /\ rh < 4294967296 /\ qh <= 4294967297) (fun ⟨qh, rh⟩ => qh) (R / a, R % a) ?_ ?_ ?_
  ·exact .cons rfl (.cons rfl (.cons rfl (.cons rfl (.cons rfl (.cons rfl (.cons rfl (.cons rfl (.cons rfl (.nil _)))))))))
  ·exact ⟨Lc15, by rw [Nat.mul_comm]; exact Nat.div_add_mod _ _, by rw [hQ2]; exact dig_start hY (by omega) hRY (by omega), Nat.lt_of_lt_of_le (Nat.mod_lt _ (by omega)) (by omega), dig_first hY (by omega) (by omega) hRY⟩
  rintro ⟨qh, rh⟩ wl ⟨Ll, hi, hq, hr, hq2⟩
  refine WC.seq (WC.sr (W.run 2 rfl ?_))
  by_cases hb : 4294967296 <= qh
  ·refine W.run 1 rfl ?_
   refine W.skip rfl rfl rfl (decide_eq_true (by omega)) rfl rfl ?_
   refine W.skip rfl rfl rfl (decide_eq_true (by omega)) rfl rfl ?_
   refine W.skip rfl rfl rfl (decide_eq_true (by omega)) rfl rfl ?_
   refine W.skip rfl rfl rfl (decide_eq_true (by omega)) rfl rfl ?_
   refine W.skip rfl rfl rfl (decide_eq_true (by omega)) rfl rfl ?_
   refine W.skip rfl rfl rfl (decide_eq_true (by omega)) rfl rfl ?_
   refine W.skip rfl rfl rfl (decide_eq_true (by omega)) rfl rfl ?_
   refine W.skip rfl rfl rfl (decide_eq_true (by omega)) rfl rfl ?_
   refine W.a (.pickT rfl (decide_eq_true (by omega)) rfl) ?_
   have hgt : Q2 < qh := by rw [hQ2]; exact dig_gt hY hRY (by omega) hi (by omega)
   have hd : qh * a = (qh - 1) * a + a := by rw [<- Nat.succ_mul]; congr 1; omega
   have hinv : (qh - 1) * a + (rh + a) = R := by omega
   refine W.nx (WC.condT rfl (WC.sn (WC.block (WC.sr (W.run 1 rfl ?_)))))
   refine W.a (.subN (qh) (1) (qh - 1) rfl rfl rfl rfl (by omega) (by omega)) ?_
   refine W.run 1 rfl (W.nx (WC.sr (W.run 2 rfl ?_)))
   refine W.a (.addN (rh) (a) (rh + a) rfl rfl rfl rfl (by omega)) ?_
   refine W.run 1 rfl (W.nx (WC.sr (W.run 2 rfl (W.nx ?_))))
   refine WC.cond rfl (fun c6 => ?_) (fun c6 => ?_)
   ·have hqe : qh - 1 = Q2 := Nat.le_antisymm (by rw [hQ2]; exact dig_brk hY (by omega) hb1 hinv (by omega) (by omega)) (by omega)
    refine WC.exit (E.blkX rfl (E.thenX (E.blkH ?_)))
    refine E.meet () (.cons rfl (.cons rfl (.cons rfl (.cons rfl (.cons rfl (.cons rfl (.cons rfl (.cons' rfl (int_eq (by rw [hqe])) (.nil _))))))))) ?_
    exact Ll
   refine WC.skip (E.blkN ?_)
   refine E.again (qh - 1, rh + a) (.cons rfl (.cons rfl (.cons rfl (.cons rfl (.cons rfl (.cons rfl (.cons rfl (.cons rfl (.cons rfl (.nil _)))))))))) ?_ ?_
   ·exact ⟨Ll, hinv, by omega, by omega, by omega⟩
   first | omega | (simp only []; omega)
  refine W.run 1 rfl ?_
  refine W.rdg (Any.rd (.move rfl) _) rfl rfl rfl (decide_eq_false (by omega)) rfl rfl ?_
  refine W.rdg (Any.rd (.move rfl) _) rfl rfl rfl (decide_eq_false (by omega)) rfl rfl ?_
  have hqb : qh * b < 18446744073709551616 := Nat.lt_of_le_of_lt (Nat.mul_le_mul (show qh <= 4294967295 by omega) (show b <= 4294967295 by omega)) (by decide)
  refine W.rdg (Any.rd (.mulN (qh) (b) (qh * b) rfl rfl rfl rfl (Nat.mod_eq_of_lt hqb)) _) rfl rfl rfl (decide_eq_false (by omega)) rfl rfl ?_
  refine W.rdg (Any.rd (.move rfl) _) rfl rfl rfl (decide_eq_false (by omega)) rfl rfl ?_
  refine W.rdg (Any.rd (.mulN (4294967296) (rh) (4294967296 * rh) rfl rfl rfl rfl (by omega)) _) rfl rfl rfl (decide_eq_false (by omega)) rfl rfl ?_
  refine W.rdg (Any.rd (.move rfl) _) rfl rfl rfl (decide_eq_false (by omega)) rfl rfl ?_
  refine W.rdg (Any.rd (.addN (4294967296 * rh) (e0) (4294967296 * rh + e0) rfl rfl rfl rfl (by omega)) _) rfl rfl rfl (decide_eq_false (by omega)) rfl rfl ?_
  refine W.rdg (Any.rd (.gtr rfl rfl) _) rfl rfl rfl (decide_eq_false (by omega)) rfl rfl ?_
  refine W.a (.pickF rfl (decide_eq_false (by omega)) rfl) ?_
  refine W.nx ?_
  refine WC.cond rfl (fun c5 => ?_) (fun c5 => ?_)
  ·have hgt : Q2 < qh := by rw [hQ2]; exact dig_gt hY hRY (by omega) hi (by omega)
   have hd : qh * a = (qh - 1) * a + a := by rw [<- Nat.succ_mul]; congr 1; omega
   have hinv : (qh - 1) * a + (rh + a) = R := by omega
   refine WC.sn (WC.block (WC.sr (W.run 1 rfl ?_)))
   refine W.a (.subN (qh) (1) (qh - 1) rfl rfl rfl rfl (by omega) (by omega)) ?_
   refine W.run 1 rfl (W.nx (WC.sr (W.run 2 rfl ?_)))
   refine W.a (.addN (rh) (a) (rh + a) rfl rfl rfl rfl (by omega)) ?_
   refine W.run 1 rfl (W.nx (WC.sr (W.run 2 rfl (W.nx ?_))))
   refine WC.cond rfl (fun c6 => ?_) (fun c6 => ?_)
   ·have hqe : qh - 1 = Q2 := Nat.le_antisymm (by rw [hQ2]; exact dig_brk hY (by omega) hb1 hinv (by omega) (by omega)) (by omega)
    refine WC.exit (E.blkX rfl (E.thenX (E.blkH ?_)))
    refine E.meet () (.cons rfl (.cons rfl (.cons rfl (.cons rfl (.cons rfl (.cons rfl (.cons rfl (.cons' rfl (int_eq (by rw [hqe])) (.nil _))))))))) ?_
    exact Ll
   refine WC.skip (E.blkN ?_)
   refine E.again (qh - 1, rh + a) (.cons rfl (.cons rfl (.cons rfl (.cons rfl (.cons rfl (.cons rfl (.cons rfl (.cons rfl (.cons rfl (.nil _)))))))))) ?_ ?_
   ·exact ⟨Ll, hinv, by omega, by omega, by omega⟩
   first | omega | (simp only []; omega)
  have hqe : qh = Q2 := Nat.le_antisymm (by rw [hQ2]; exact dig_le hY (by omega) hi (by omega)) hq
  refine WC.exit (E.thenX (E.thenX (E.blkH ?_)))
  refine E.meet () (.cons rfl (.cons rfl (.cons rfl (.cons rfl (.cons rfl (.cons rfl (.cons rfl (.cons' rfl (int_eq (by rw [hqe])) (.nil _))))))))) ?_
  exact Ll
 rintro ⟨⟩ wc18 Lc18
 refine WC.sr (W.run 1 rfl ?_)
 refine W.a (.mulN (Q1) (4294967296) (Q1 * 4294967296 % 18446744073709551616) rfl rfl rfl rfl (rfl)) ?_
 refine W.run 1 rfl ?_
 refine W.a (.addN (Q1 * 4294967296 % 18446744073709551616) (Q2) ((Q1 * 4294967296 % 18446744073709551616 + Q2) % 18446744073709551616) rfl rfl rfl rfl (rfl)) ?_
 refine W.run 1 rfl ?_
 refine W.a (.mulN (R) (4294967296) (R * 4294967296 % 18446744073709551616) rfl rfl rfl rfl (rfl)) ?_
 refine W.run 1 rfl ?_
 refine W.a (.addN (R * 4294967296 % 18446744073709551616) (e0) ((R * 4294967296 + e0) % 18446744073709551616) rfl rfl rfl rfl (by rw [Nat.mod_add_mod])) ?_
 refine W.run 2 rfl ?_
 refine W.a (.mulN (Q2) (Y) (Q2 * Y % 18446744073709551616) rfl rfl rfl rfl (rfl)) ?_
 refine W.a (.subN ((R * 4294967296 + e0) % 18446744073709551616) (Q2 * Y % 18446744073709551616) ((R * 4294967296 + e0) % Y) rfl rfl rfl rfl (Nat.le_of_lt (Nat.mod_lt _ (by decide))) (dig_rest Y _ _ hQ2 (by omega) (by omega))) ?_
 refine W.run 1 rfl ?_
 refine W.a (.shrE ((R * 4294967296 + e0) % Y) (2) ((h * 18446744073709551616 + l) % y) rfl rfl rfl rfl (by decide) (hfin)) ?_
 refine W.run 2 rfl (W.nx (WC.ret ?_))
 refine E.ret2 rfl rfl rfl ?_
 exact ⟨_, rfl, Lc18⟩

theorem div64_ok3 (h l y : Nat) (h1 : 1152921504606846976 <= y) (h2 : y < 2305843009213693952) (hh : h < y) (hl : l < 18446744073709551616) (w : World) : Calls prog 301 #[.int .u64 ((h : Nat) : Int), .int .u64 ((l : Nat) : Int), .int .u64 ((y : Nat) : Int)] w fun e w' => ∃ qq : Int, e = .returned (.tuple #[.int .u64 qq, .int .u64 (((h * 18446744073709551616 + l) % y : Nat) : Int)]) /\ Le w w' := by
 obtain ⟨Y, hYd⟩ : ∃ Y, Y = y * 8 := ⟨_, rfl⟩
 obtain ⟨a, ha⟩ : ∃ a, a = Y / 4294967296 := ⟨_, rfl⟩
 obtain ⟨b, hb0⟩ : ∃ b, b = Y % 4294967296 := ⟨_, rfl⟩
 obtain ⟨U, hUd⟩ : ∃ U, U = h * 8 + l / 2305843009213693952 := ⟨_, rfl⟩
 obtain ⟨v, hv⟩ : ∃ v, v = l * 8 % 18446744073709551616 := ⟨_, rfl⟩
 obtain ⟨e1, he1⟩ : ∃ e1, e1 = v / 4294967296 := ⟨_, rfl⟩
 obtain ⟨e0, he0⟩ : ∃ e0, e0 = v % 4294967296 := ⟨_, rfl⟩
 have hY : Y = a * 4294967296 + b := by omega
 have hYlo : 9223372036854775808 <= Y := by omega
 have hYhi : Y < 18446744073709551616 := by omega
 have ha1 : 2147483648 <= a := by omega
 have ha2 : a < 4294967296 := by omega
 have hb1 : b < 4294967296 := by omega
 have hv2 : v < 18446744073709551616 := by omega
 have he12 : e1 < 4294967296 := by omega
 have he02 : e0 < 4294967296 := by omega
 have hU : U < Y := by omega
 obtain ⟨R, hR⟩ : ∃ R, R = (U * 4294967296 + e1) % Y := ⟨_, rfl⟩
 obtain ⟨Q1, hQ1⟩ : ∃ Q1, Q1 = (U * 4294967296 + e1) / Y := ⟨_, rfl⟩
 obtain ⟨Q2, hQ2⟩ : ∃ Q2, Q2 = (R * 4294967296 + e0) / Y := ⟨_, rfl⟩
 have hRY : R < Y := by rw [hR]; exact Nat.mod_lt _ (by omega)
 have hfin : (R * 4294967296 + e0) % Y / 2 ^ 3 = (h * 18446744073709551616 + l) % y := div_fin3 h l y Y U v e1 e0 R hYd hUd hv he1 he0 hR (by omega)
 have hlz : ∀ w, Calls prog 334 #[.int .u64 ((y : Nat) : Int)] w (fun e w' => e = .returned (.int .i64 3) /\ Le w w') := fun w => by
  have := lz64_ok y (by omega) (by omega) w
  rw [if_pos (by omega)] at this
  exact this
 refine enter func301 rfl rfl ?_
 have L0 := Le.refl w
 refine WC.sr (W.run 2 rfl (W.nx (WC.seq (WC.sr (W.run 2 rfl (W.nx ?_))))))
 refine WC.condB rfl (fun h => absurd h (by simp; omega)) (fun _ => ?_)
 refine WC.sn (WC.seq (WC.sr (W.run 3 rfl (W.nx ?_))))
 refine WC.condB rfl (fun h => absurd h (by simp; omega)) (fun _ => ?_)
 refine WC.sn (WC.seq (WC.sr (W.run 2 rfl (W.nx ?_))))
 refine WC.cond rfl (fun c2 => ?_) (fun c2 => ?_)
 ·have h0 : h = 0 := by omega
  subst h0
  refine WC.seq ?_
  refine WC.draw [0, 1, 2, 3, 4, 5, 6, 7] mixed (by kernel_rfl) ?_
  intro w6 d6
  have L6 := L0.trans d6
  refine G.run 2 rfl ?_
  refine G.a rfl (.quoN (l) (y) (l / y) rfl rfl rfl rfl (by omega) (by omega) (rfl)) ?_
  refine G.run 2 rfl ?_
  refine G.a rfl (.remN (l) (y) (l % y) rfl rfl rfl rfl (by omega) (rfl)) ?_
  refine G.run 2 rfl (G.nil (E.thenN (WC.ret (E.thenR ?_))))
  refine E.ret2 rfl rfl rfl ?_
  exact ⟨_, by rw [Nat.zero_mul, Nat.zero_add], L6⟩
 refine WC.sn (WC.sr (W.run 1 rfl ?_))
 refine W.cl go334 rfl rfl (hlz w) ?_
 rintro _ w7_1 ⟨rfl, h7_1⟩
 have L7_1 := L0.trans h7_1
 refine W.r (.idI (isS underlying3) underlying287 rfl (IntWalk.u64_in _ (by decide))) ?_
 refine W.run 1 rfl (W.nx (WC.sr (W.run 2 rfl ?_)))
 refine W.a (.shlN (y) (3) (Y) rfl rfl rfl rfl (by decide) (by omega)) ?_
 refine W.run 1 rfl (W.nx (WC.sr (W.run 1 rfl ?_)))
 refine W.a (.shrE (Y) (32) (a) rfl rfl rfl rfl (by decide) (by omega)) ?_
 refine W.run 1 rfl (W.nx (WC.sr (W.run 1 rfl ?_)))
 refine W.a (.andE (Y) (4294967295) (b) rfl rfl rfl rfl (by omega) (by omega) ((mask32 _).trans hb0.symm)) ?_
 refine W.run 1 rfl (W.nx (WC.sr (W.run 2 rfl ?_)))
 refine W.a (.shlN (h) (3) (h * 8) rfl rfl rfl rfl (by decide) (by omega)) ?_
 refine W.run 2 rfl ?_
 refine W.a (.subN (64) (3) (61) rfl rfl rfl rfl (by decide) (by decide)) ?_
 refine W.a (.shrE (l) (61) (l / 2305843009213693952) rfl rfl rfl rfl (by decide) (rfl)) ?_
 refine W.a (.orE (h * 8) (l / 2305843009213693952) (U) rfl rfl rfl rfl (by omega) (by omega) (by rw [hUd, Nat.mul_comm h, show (8 : Nat) = 2 ^ 3 by decide]; exact (Nat.two_pow_add_eq_or_of_lt (by omega) _).symm)) ?_
 refine W.run 1 rfl (W.nx (WC.sr (W.run 2 rfl ?_)))
 refine W.a (.shlN (l) (3) (v) rfl rfl rfl rfl (by decide) (hv.symm)) ?_
 refine W.run 1 rfl (W.nx (WC.sr (W.run 1 rfl ?_)))
 refine W.a (.shrE (v) (32) (e1) rfl rfl rfl rfl (by decide) (by omega)) ?_
 refine W.run 1 rfl (W.nx (WC.sr (W.run 1 rfl ?_)))
 refine W.a (.andE (v) (4294967295) (e0) rfl rfl rfl rfl (by omega) (by omega) ((mask32 _).trans he0.symm)) ?_
 refine W.run 1 rfl (W.nx (WC.sr (W.run 2 rfl ?_)))
 refine W.a (.quoN (U) (a) (U / a) rfl rfl rfl rfl (by omega) (by omega) (rfl)) ?_
 refine W.run 1 rfl (W.nx (WC.sr (W.run 3 rfl ?_)))
 refine W.a (.mulN (U / a) (a) (U / a * a) rfl rfl rfl rfl (Nat.mod_eq_of_lt (Nat.lt_of_le_of_lt (Nat.div_mul_le_self _ _) (by omega)))) ?_
 refine W.a (.subN (U) (U / a * a) (U % a) rfl rfl rfl rfl (Nat.le_trans (Nat.div_mul_le_self _ _) (by omega)) (sub_div U a (by omega))) ?_
 refine W.run 1 rfl (W.nx ?_)
 refine WC.cut (ι := Unit) (fun () => [(2, .int .u64 ((Y : Nat) : Int)), (8, .int .u64 (3 : Int)), (9, .int .u64 ((a : Nat) : Int)), (10, .int .u64 ((b : Nat) : Int)), (11, .int .u64 ((U : Nat) : Int)), (13, .int .u64 ((e1 : Nat) : Int)), (14, .int .u64 ((e0 : Nat) : Int)), (15, .int .u64 ((Q1 : Nat) : Int))]) (fun () wc15 => Le w wc15) ?_ ?_
 ·refine WC.block ?_
  refine WC.loop (ι := Nat × Nat) (fun ⟨qh, rh⟩ => [(2, .int .u64 ((Y : Nat) : Int)), (8, .int .u64 (3 : Int)), (9, .int .u64 ((a : Nat) : Int)), (10, .int .u64 ((b : Nat) : Int)), (11, .int .u64 ((U : Nat) : Int)), (13, .int .u64 ((e1 : Nat) : Int)), (14, .int .u64 ((e0 : Nat) : Int)), (15, .int .u64 ((qh : Nat) : Int)), (16, .int .u64 ((rh : Nat) : Int))]) (fun ⟨qh, rh⟩ wl => Le w wl /\ qh * a + rh = U /\ Q1 <= qh /\ rh < 4294967296 /\ qh <= 4294967297) (fun ⟨qh, rh⟩ => qh) (U / a, U % a) ?_ ?_ ?_
  ·exact .cons rfl (.cons rfl (.cons rfl (.cons rfl (.cons rfl (.cons rfl (.cons rfl (.cons rfl (.cons rfl (.nil _)))))))))
  ·exact ⟨L7_1, by rw [Nat.mul_comm]; exact Nat.div_add_mod _ _, by rw [hQ1]; exact dig_start hY (by omega) hU (by omega), Nat.lt_of_lt_of_le (Nat.mod_lt _ (by omega)) (by omega), dig_first hY (by omega) (by omega) hU⟩
  rintro ⟨qh, rh⟩ wl ⟨Ll, hi, hq, hr, hq2⟩
  refine WC.seq (WC.sr (W.run 2 rfl ?_))
  by_cases hb : 4294967296 <= qh
  ·refine W.run 1 rfl ?_
   refine W.skip rfl rfl rfl (decide_eq_true (by omega)) rfl rfl ?_
   refine W.skip rfl rfl rfl (decide_eq_true (by omega)) rfl rfl ?_
   refine W.skip rfl rfl rfl (decide_eq_true (by omega)) rfl rfl ?_
   refine W.skip rfl rfl rfl (decide_eq_true (by omega)) rfl rfl ?_
   refine W.skip rfl rfl rfl (decide_eq_true (by omega)) rfl rfl ?_
   refine W.skip rfl rfl rfl (decide_eq_true (by omega)) rfl rfl ?_
   refine W.skip rfl rfl rfl (decide_eq_true (by omega)) rfl rfl ?_
   refine W.skip rfl rfl rfl (decide_eq_true (by omega)) rfl rfl ?_
   refine W.a (.pickT rfl (decide_eq_true (by omega)) rfl) ?_
   have hgt : Q1 < qh := by rw [hQ1]; exact dig_gt hY hU (by omega) hi (by omega)
   have hd : qh * a = (qh - 1) * a + a := by rw [<- Nat.succ_mul]; congr 1; omega
   have hinv : (qh - 1) * a + (rh + a) = U := by omega
   refine W.nx (WC.condT rfl (WC.sn (WC.block (WC.sr (W.run 1 rfl ?_)))))
   refine W.a (.subN (qh) (1) (qh - 1) rfl rfl rfl rfl (by omega) (by omega)) ?_
   refine W.run 1 rfl (W.nx (WC.sr (W.run 2 rfl ?_)))
   refine W.a (.addN (rh) (a) (rh + a) rfl rfl rfl rfl (by omega)) ?_
   refine W.run 1 rfl (W.nx (WC.sr (W.run 2 rfl (W.nx ?_))))
   refine WC.cond rfl (fun c4 => ?_) (fun c4 => ?_)
   ·have hqe : qh - 1 = Q1 := Nat.le_antisymm (by rw [hQ1]; exact dig_brk hY (by omega) hb1 hinv (by omega) (by omega)) (by omega)
    refine WC.exit (E.blkX rfl (E.thenX (E.blkH ?_)))
    refine E.meet () (.cons rfl (.cons rfl (.cons rfl (.cons rfl (.cons rfl (.cons rfl (.cons rfl (.cons' rfl (int_eq (by rw [hqe])) (.nil _))))))))) ?_
    exact Ll
   refine WC.skip (E.blkN ?_)
   refine E.again (qh - 1, rh + a) (.cons rfl (.cons rfl (.cons rfl (.cons rfl (.cons rfl (.cons rfl (.cons rfl (.cons rfl (.cons rfl (.nil _)))))))))) ?_ ?_
   ·exact ⟨Ll, hinv, by omega, by omega, by omega⟩
   first | omega | (simp only []; omega)
  refine W.run 1 rfl ?_
  refine W.rdg (Any.rd (.move rfl) _) rfl rfl rfl (decide_eq_false (by omega)) rfl rfl ?_
  refine W.rdg (Any.rd (.move rfl) _) rfl rfl rfl (decide_eq_false (by omega)) rfl rfl ?_
  have hqb : qh * b < 18446744073709551616 := Nat.lt_of_le_of_lt (Nat.mul_le_mul (show qh <= 4294967295 by omega) (show b <= 4294967295 by omega)) (by decide)
  refine W.rdg (Any.rd (.mulN (qh) (b) (qh * b) rfl rfl rfl rfl (Nat.mod_eq_of_lt hqb)) _) rfl rfl rfl (decide_eq_false (by omega)) rfl rfl ?_
  refine W.rdg (Any.rd (.move rfl) _) rfl rfl rfl (decide_eq_false (by omega)) rfl rfl ?_
  refine W.rdg (Any.rd (.mulN (4294967296) (rh) (4294967296 * rh) rfl rfl rfl rfl (by omega)) _) rfl rfl rfl (decide_eq_false (by omega)) rfl rfl ?_
  refine W.rdg (Any.rd (.move rfl) _) rfl rfl rfl (decide_eq_false (by omega)) rfl rfl ?_
  refine W.rdg (Any.rd (.addN (4294967296 * rh) (e1) (4294967296 * rh + e1) rfl rfl rfl rfl (by omega)) _) rfl rfl rfl (decide_eq_false (by omega)) rfl rfl ?_
  refine W.rdg (Any.rd (.gtr rfl rfl) _) rfl rfl rfl (decide_eq_false (by omega)) rfl rfl ?_
  refine W.a (.pickF rfl (decide_eq_false (by omega)) rfl) ?_
  refine W.nx ?_
  refine WC.cond rfl (fun c3 => ?_) (fun c3 => ?_)
  ·have hgt : Q1 < qh := by rw [hQ1]; exact dig_gt hY hU (by omega) hi (by omega)
   have hd : qh * a = (qh - 1) * a + a := by rw [<- Nat.succ_mul]; congr 1; omega
   have hinv : (qh - 1) * a + (rh + a) = U := by omega
   refine WC.sn (WC.block (WC.sr (W.run 1 rfl ?_)))
   refine W.a (.subN (qh) (1) (qh - 1) rfl rfl rfl rfl (by omega) (by omega)) ?_
   refine W.run 1 rfl (W.nx (WC.sr (W.run 2 rfl ?_)))
   refine W.a (.addN (rh) (a) (rh + a) rfl rfl rfl rfl (by omega)) ?_
   refine W.run 1 rfl (W.nx (WC.sr (W.run 2 rfl (W.nx ?_))))
   refine WC.cond rfl (fun c4 => ?_) (fun c4 => ?_)
   ·have hqe : qh - 1 = Q1 := Nat.le_antisymm (by rw [hQ1]; exact dig_brk hY (by omega) hb1 hinv (by omega) (by omega)) (by omega)
    refine WC.exit (E.blkX rfl (E.thenX (E.blkH ?_)))
    refine E.meet () (.cons rfl (.cons rfl (.cons rfl (.cons rfl (.cons rfl (.cons rfl (.cons rfl (.cons' rfl (int_eq (by rw [hqe])) (.nil _))))))))) ?_
    exact Ll
   refine WC.skip (E.blkN ?_)
   refine E.again (qh - 1, rh + a) (.cons rfl (.cons rfl (.cons rfl (.cons rfl (.cons rfl (.cons rfl (.cons rfl (.cons rfl (.cons rfl (.nil _)))))))))) ?_ ?_
   ·exact ⟨Ll, hinv, by omega, by omega, by omega⟩
   first | omega | (simp only []; omega)
  have hqe : qh = Q1 := Nat.le_antisymm (by rw [hQ1]; exact dig_le hY (by omega) hi (by omega)) hq
  refine WC.exit (E.thenX (E.thenX (E.blkH ?_)))
  refine E.meet () (.cons rfl (.cons rfl (.cons rfl (.cons rfl (.cons rfl (.cons rfl (.cons rfl (.cons' rfl (int_eq (by rw [hqe])) (.nil _))))))))) ?_
  exact Ll
 rintro ⟨⟩ wc15 Lc15
 refine WC.sr (W.run 1 rfl ?_)
 refine W.a (.mulN (U) (4294967296) (U * 4294967296 % 18446744073709551616) rfl rfl rfl rfl (rfl)) ?_
 refine W.run 1 rfl ?_
 refine W.a (.addN (U * 4294967296 % 18446744073709551616) (e1) ((U * 4294967296 + e1) % 18446744073709551616) rfl rfl rfl rfl (by rw [Nat.mod_add_mod])) ?_
 refine W.run 2 rfl ?_
 refine W.a (.mulN (Q1) (Y) (Q1 * Y % 18446744073709551616) rfl rfl rfl rfl (rfl)) ?_
 refine W.a (.subN ((U * 4294967296 + e1) % 18446744073709551616) (Q1 * Y % 18446744073709551616) (R) rfl rfl rfl rfl (Nat.le_of_lt (Nat.mod_lt _ (by decide))) ((dig_rest Y _ _ hQ1 (by omega) (by omega)).trans hR.symm)) ?_
 refine W.run 1 rfl (W.nx (WC.sr (W.run 2 rfl ?_)))
 refine W.a (.quoN (R) (a) (R / a) rfl rfl rfl rfl (by omega) (by omega) (rfl)) ?_
 refine W.run 1 rfl (W.nx (WC.sr (W.run 3 rfl ?_)))
 refine W.a (.mulN (R / a) (a) (R / a * a) rfl rfl rfl rfl (Nat.mod_eq_of_lt (Nat.lt_of_le_of_lt (Nat.div_mul_le_self _ _) (by omega)))) ?_
 refine W.a (.subN (R) (R / a * a) (R % a) rfl rfl rfl rfl (Nat.le_trans (Nat.div_mul_le_self _ _) (by omega)) (sub_div R a (by omega))) ?_
 refine W.run 1 rfl (W.nx ?_)
 refine WC.cut (ι := Unit) (fun () => [(2, .int .u64 ((Y : Nat) : Int)), (8, .int .u64 (3 : Int)), (9, .int .u64 ((a : Nat) : Int)), (10, .int .u64 ((b : Nat) : Int)), (14, .int .u64 ((e0 : Nat) : Int)), (17, .int .u64 ((R : Nat) : Int)), (15, .int .u64 ((Q1 : Nat) : Int)), (18, .int .u64 ((Q2 : Nat) : Int))]) (fun () wc18 => Le w wc18) ?_ ?_
 ·refine WC.block ?_
  refine WC.loop (ι := Nat × Nat) (fun ⟨qh, rh⟩ => [(2, .int .u64 ((Y : Nat) : Int)), (8, .int .u64 (3 : Int)), (9, .int .u64 ((a : Nat) : Int)), (10, .int .u64 ((b : Nat) : Int)), (14, .int .u64 ((e0 : Nat) : Int)), (17, .int .u64 ((R : Nat) : Int)), (15, .int .u64 ((Q1 : Nat) : Int)), (18, .int .u64 ((qh : Nat) : Int)), (16, .int .u64 ((rh : Nat) : Int))]) (fun ⟨qh, rh⟩ wl => Le w wl /\ qh * a + rh = R /\ Q2 <= qh /\ rh < 4294967296 /\ qh <= 4294967297) (fun ⟨qh, rh⟩ => qh) (R / a, R % a) ?_ ?_ ?_
  ·exact .cons rfl (.cons rfl (.cons rfl (.cons rfl (.cons rfl (.cons rfl (.cons rfl (.cons rfl (.cons rfl (.nil _)))))))))
  ·exact ⟨Lc15, by rw [Nat.mul_comm]; exact Nat.div_add_mod _ _, by rw [hQ2]; exact dig_start hY (by omega) hRY (by omega), Nat.lt_of_lt_of_le (Nat.mod_lt _ (by omega)) (by omega), dig_first hY (by omega) (by omega) hRY⟩
  rintro ⟨qh, rh⟩ wl ⟨Ll, hi, hq, hr, hq2⟩
  refine WC.seq (WC.sr (W.run 2 rfl ?_))
  by_cases hb : 4294967296 <= qh
  ·refine W.run 1 rfl ?_
   refine W.skip rfl rfl rfl (decide_eq_true (by omega)) rfl rfl ?_
   refine W.skip rfl rfl rfl (decide_eq_true (by omega)) rfl rfl ?_
   refine W.skip rfl rfl rfl (decide_eq_true (by omega)) rfl rfl ?_
   refine W.skip rfl rfl rfl (decide_eq_true (by omega)) rfl rfl ?_
   refine W.skip rfl rfl rfl (decide_eq_true (by omega)) rfl rfl ?_
   refine W.skip rfl rfl rfl (decide_eq_true (by omega)) rfl rfl ?_
   refine W.skip rfl rfl rfl (decide_eq_true (by omega)) rfl rfl ?_
   refine W.skip rfl rfl rfl (decide_eq_true (by omega)) rfl rfl ?_
   refine W.a (.pickT rfl (decide_eq_true (by omega)) rfl) ?_
   have hgt : Q2 < qh := by rw [hQ2]; exact dig_gt hY hRY (by omega) hi (by omega)
   have hd : qh * a = (qh - 1) * a + a := by rw [<- Nat.succ_mul]; congr 1; omega
   have hinv : (qh - 1) * a + (rh + a) = R := by omega
   refine W.nx (WC.condT rfl (WC.sn (WC.block (WC.sr (W.run 1 rfl ?_)))))
   refine W.a (.subN (qh) (1) (qh - 1) rfl rfl rfl rfl (by omega) (by omega)) ?_
   refine W.run 1 rfl (W.nx (WC.sr (W.run 2 rfl ?_)))
   refine W.a (.addN (rh) (a) (rh + a) rfl rfl rfl rfl (by omega)) ?_
   refine W.run 1 rfl (W.nx (WC.sr (W.run 2 rfl (W.nx ?_))))
   refine WC.cond rfl (fun c6 => ?_) (fun c6 => ?_)
   ·have hqe : qh - 1 = Q2 := Nat.le_antisymm (by rw [hQ2]; exact dig_brk hY (by omega) hb1 hinv (by omega) (by omega)) (by omega)
    refine WC.exit (E.blkX rfl (E.thenX (E.blkH ?_)))
    refine E.meet () (.cons rfl (.cons rfl (.cons rfl (.cons rfl (.cons rfl (.cons rfl (.cons rfl (.cons' rfl (int_eq (by rw [hqe])) (.nil _))))))))) ?_
    exact Ll
   refine WC.skip (E.blkN ?_)
   refine E.again (qh - 1, rh + a) (.cons rfl (.cons rfl (.cons rfl (.cons rfl (.cons rfl (.cons rfl (.cons rfl (.cons rfl (.cons rfl (.nil _)))))))))) ?_ ?_
   ·exact ⟨Ll, hinv, by omega, by omega, by omega⟩
   first | omega | (simp only []; omega)
  refine W.run 1 rfl ?_
  refine W.rdg (Any.rd (.move rfl) _) rfl rfl rfl (decide_eq_false (by omega)) rfl rfl ?_
  refine W.rdg (Any.rd (.move rfl) _) rfl rfl rfl (decide_eq_false (by omega)) rfl rfl ?_
  have hqb : qh * b < 18446744073709551616 := Nat.lt_of_le_of_lt (Nat.mul_le_mul (show qh <= 4294967295 by omega) (show b <= 4294967295 by omega)) (by decide)
  refine W.rdg (Any.rd (.mulN (qh) (b) (qh * b) rfl rfl rfl rfl (Nat.mod_eq_of_lt hqb)) _) rfl rfl rfl (decide_eq_false (by omega)) rfl rfl ?_
  refine W.rdg (Any.rd (.move rfl) _) rfl rfl rfl (decide_eq_false (by omega)) rfl rfl ?_
  refine W.rdg (Any.rd (.mulN (4294967296) (rh) (4294967296 * rh) rfl rfl rfl rfl (by omega)) _) rfl rfl rfl (decide_eq_false (by omega)) rfl rfl ?_
  refine W.rdg (Any.rd (.move rfl) _) rfl rfl rfl (decide_eq_false (by omega)) rfl rfl ?_
  refine W.rdg (Any.rd (.addN (4294967296 * rh) (e0) (4294967296 * rh + e0) rfl rfl rfl rfl (by omega)) _) rfl rfl rfl (decide_eq_false (by omega)) rfl rfl ?_
  refine W.rdg (Any.rd (.gtr rfl rfl) _) rfl rfl rfl (decide_eq_false (by omega)) rfl rfl ?_
  refine W.a (.pickF rfl (decide_eq_false (by omega)) rfl) ?_
  refine W.nx ?_
  refine WC.cond rfl (fun c5 => ?_) (fun c5 => ?_)
  ·have hgt : Q2 < qh := by rw [hQ2]; exact dig_gt hY hRY (by omega) hi (by omega)
   have hd : qh * a = (qh - 1) * a + a := by rw [<- Nat.succ_mul]; congr 1; omega
   have hinv : (qh - 1) * a + (rh + a) = R := by omega
   refine WC.sn (WC.block (WC.sr (W.run 1 rfl ?_)))
   refine W.a (.subN (qh) (1) (qh - 1) rfl rfl rfl rfl (by omega) (by omega)) ?_
   refine W.run 1 rfl (W.nx (WC.sr (W.run 2 rfl ?_)))
   refine W.a (.addN (rh) (a) (rh + a) rfl rfl rfl rfl (by omega)) ?_
   refine W.run 1 rfl (W.nx (WC.sr (W.run 2 rfl (W.nx ?_))))
   refine WC.cond rfl (fun c6 => ?_) (fun c6 => ?_)
   ·have hqe : qh - 1 = Q2 := Nat.le_antisymm (by rw [hQ2]; exact dig_brk hY (by omega) hb1 hinv (by omega) (by omega)) (by omega)
    refine WC.exit (E.blkX rfl (E.thenX (E.blkH ?_)))
    refine E.meet () (.cons rfl (.cons rfl (.cons rfl (.cons rfl (.cons rfl (.cons rfl (.cons rfl (.cons' rfl (int_eq (by rw [hqe])) (.nil _))))))))) ?_
    exact Ll
   refine WC.skip (E.blkN ?_)
   refine E.again (qh - 1, rh + a) (.cons rfl (.cons rfl (.cons rfl (.cons rfl (.cons rfl (.cons rfl (.cons rfl (.cons rfl (.cons rfl (.nil _)))))))))) ?_ ?_
   ·exact ⟨Ll, hinv, by omega, by omega, by omega⟩
   first | omega | (simp only []; omega)
  have hqe : qh = Q2 := Nat.le_antisymm (by rw [hQ2]; exact dig_le hY (by omega) hi (by omega)) hq
  refine WC.exit (E.thenX (E.thenX (E.blkH ?_)))
  refine E.meet () (.cons rfl (.cons rfl (.cons rfl (.cons rfl (.cons rfl (.cons rfl (.cons rfl (.cons' rfl (int_eq (by rw [hqe])) (.nil _))))))))) ?_
  exact Ll
 rintro ⟨⟩ wc18 Lc18
 refine WC.sr (W.run 1 rfl ?_)
 refine W.a (.mulN (Q1) (4294967296) (Q1 * 4294967296 % 18446744073709551616) rfl rfl rfl rfl (rfl)) ?_
 refine W.run 1 rfl ?_
 refine W.a (.addN (Q1 * 4294967296 % 18446744073709551616) (Q2) ((Q1 * 4294967296 % 18446744073709551616 + Q2) % 18446744073709551616) rfl rfl rfl rfl (rfl)) ?_
 refine W.run 1 rfl ?_
 refine W.a (.mulN (R) (4294967296) (R * 4294967296 % 18446744073709551616) rfl rfl rfl rfl (rfl)) ?_
 refine W.run 1 rfl ?_
 refine W.a (.addN (R * 4294967296 % 18446744073709551616) (e0) ((R * 4294967296 + e0) % 18446744073709551616) rfl rfl rfl rfl (by rw [Nat.mod_add_mod])) ?_
 refine W.run 2 rfl ?_
 refine W.a (.mulN (Q2) (Y) (Q2 * Y % 18446744073709551616) rfl rfl rfl rfl (rfl)) ?_
 refine W.a (.subN ((R * 4294967296 + e0) % 18446744073709551616) (Q2 * Y % 18446744073709551616) ((R * 4294967296 + e0) % Y) rfl rfl rfl rfl (Nat.le_of_lt (Nat.mod_lt _ (by decide))) (dig_rest Y _ _ hQ2 (by omega) (by omega))) ?_
 refine W.run 1 rfl ?_
 refine W.a (.shrE ((R * 4294967296 + e0) % Y) (3) ((h * 18446744073709551616 + l) % y) rfl rfl rfl rfl (by decide) (hfin)) ?_
 refine W.run 2 rfl (W.nx (WC.ret ?_))
 refine E.ret2 rfl rfl rfl ?_
 exact ⟨_, rfl, Lc18⟩

theorem rem64_ok (h l y : Nat) (h1 : 1152921504606846976 <= y) (h2 : y < 4611686018427387904) (hl : l < 18446744073709551616) (w : World) : Calls prog 243 #[.int .u64 ((h : Nat) : Int), .int .u64 ((l : Nat) : Int), .int .u64 ((y : Nat) : Int)] w fun e w' => e = .returned (.int .u64 (((h * 18446744073709551616 + l) % y : Nat) : Int)) /\ Le w w' := by
 have hd : ∀ w, Calls prog 301 #[.int .u64 ((h % y : Nat) : Int), .int .u64 ((l : Nat) : Int), .int .u64 ((y : Nat) : Int)] w fun e w' => ∃ qq : Int, e = .returned (.tuple #[.int .u64 qq, .int .u64 (((h * 18446744073709551616 + l) % y : Nat) : Int)]) /\ Le w w' := fun w => by
  rw [show (h * 18446744073709551616 + l) % y = (h % y * 18446744073709551616 + l) % y by rw [Nat.add_mod (h % y * _), Nat.mul_mod (h % y), Nat.mod_mod, <- Nat.mul_mod, <- Nat.add_mod]]
  by_cases hs : y < 2305843009213693952
  ·exact div64_ok3 (h % y) l y (by omega) (by omega) (Nat.mod_lt _ (by omega)) hl w
  exact div64_ok2 (h % y) l y (by omega) (by omega) (Nat.mod_lt _ (by omega)) hl w
 refine enter func243 rfl rfl ?_
 have L0 := Le.refl w
 refine WC.sr (W.run 1 rfl (W.nx (WC.sr (W.run 2 rfl ?_))))
 refine W.a (.remN (h) (y) (h % y) rfl rfl rfl rfl (by omega) (rfl)) ?_
 refine W.run 2 rfl ?_
 refine W.cl go301 rfl rfl (hd w) ?_
 rintro _ w1_5 ⟨qq, rfl, h1_5⟩
 have L1_5 := L0.trans h1_5
 refine W.run 1 rfl ?_
 refine W.a (.extract rfl rfl) ?_
 refine W.a (.extract rfl rfl) ?_
 refine W.run 2 rfl (W.nx (WC.sr (W.run 2 rfl (W.nx (WC.ret ?_)))))
 refine E.ret1 rfl rfl ?_
 exact ⟨rfl, L1_5⟩
end Go.Proofs.YtocheaahlpiajaaGreatDoor

namespace Go.Proofs.YtocheaahlpiajaaGreatDoor
open Tryz
open Go Go.Sx
set_option maxRecDepth 20000
structure Hid (p : Prop) : Prop where
  out : p
theorem divQ (c V T K h l y Y U v e1 e0 R Q1 Q2 : Nat) (hc : 0 < c) (hcV : c * V = T) (hK : K * K = T) (hy : 0 < y) (hY : Y = y * c) (hU : U = h * c + l / V) (hv : v = l * c % T) (h1 : e1 = v / K) (h0 : e0 = v % K) (hR : R = (U * K + e1) % Y) (hQ1 : Q1 = (U * K + e1) / Y) (hQ2 : Q2 = (R * K + e0) / Y) :
    (R * K + e0) % Y / c = (h * T + l) % y /\ Q1 * K + Q2 = (h * T + l) / y := by
  have hY0 : 0 < Y := by rw [hY]; exact Nat.mul_pos hy hc
  have e5 : K * e1 + e0 = v := by rw [h1, h0]; exact Nat.div_add_mod v K
  have e6 : T * (l / V) + v = l * c := by
    have : l * c / T = l / V := by rw [<- hcV, Nat.mul_comm c V]; exact Nat.mul_div_mul_right l V hc
    rw [<- this, hv]; exact Nat.div_add_mod _ _
  have e : (U * K + e1) * K + e0 = (h * T + l) * c := by
    rw [Nat.add_mul, Nat.mul_assoc, hK, Nat.mul_comm e1, Nat.add_assoc, e5, hU, Nat.add_mul, Nat.mul_comm (l / V), Nat.add_assoc, e6, Nat.add_mul, Nat.mul_right_comm]
  have d1 : Y * Q1 + R = U * K + e1 := by rw [hQ1, hR]; exact Nat.div_add_mod _ _
  have d2 : Y * Q2 + (R * K + e0) % Y = R * K + e0 := by rw [hQ2]; exact Nat.div_add_mod _ _
  have d3 : (R * K + e0) % Y < Y := Nat.mod_lt _ hY0
  obtain ⟨r, hr⟩ : ∃ r, r = (R * K + e0) % Y := ⟨_, rfl⟩
  rw [<- hr] at d2 d3 ⊢
  obtain ⟨N, hN⟩ : ∃ N, N = h * T + l := ⟨_, rfl⟩
  rw [<- hN] at e ⊢
  obtain ⟨G, hG⟩ : ∃ G, G = Q1 * K + Q2 := ⟨_, rfl⟩
  rw [<- hG]
  have d4 : y * G * c + r = N * c := by
    rw [<- e, <- d1, Nat.add_mul, Nat.add_assoc, <- d2, hG, hY, Nat.mul_right_comm, Nat.mul_add, Nat.mul_assoc (y * c), Nat.add_assoc]
  have d5 : y * G <= N := Nat.le_of_mul_le_mul_right (by omega) hc
  obtain ⟨D, hD⟩ := Nat.le.dest d5
  have d6 : r = D * c := by rw [<- hD, Nat.add_mul] at d4; omega
  have d7 : D < y := by rw [d6, hY] at d3; exact Nat.lt_of_mul_lt_mul_right d3
  rw [d6, Nat.mul_div_cancel _ hc, <- hD, Nat.mul_add_mod, Nat.mod_eq_of_lt d7, Nat.mul_add_div hy, Nat.div_eq_of_lt d7]
  exact ⟨rfl, rfl⟩
theorem div44 (h l y : Nat) (h1 : 524288 <= y) (h2 : y < 1048576) (hh : h < y) (hl : l < 18446744073709551616) :
    ∃ Y H G U v, Hid (y * 2 ^ 44 % 18446744073709551616 = Y) /\ Hid (h * 2 ^ 44 % 18446744073709551616 = H) /\ Hid (l / 2 ^ 20 = G) /\ Hid (H ||| G = U) /\ Hid (l * 2 ^ 44 % 18446744073709551616 = v) /\ 9223372036854775808 <= Y /\ Y < 18446744073709551616 /\ U < Y /\ v < 18446744073709551616 /\ H < 18446744073709551616 /\ G < 18446744073709551616 /\
      ∀ e1 e0 R Q1 Q2, e1 = v / 4294967296 -> e0 = v % 4294967296 -> R = (U * 4294967296 + e1) % Y -> Q1 = (U * 4294967296 + e1) / Y -> Q2 = (R * 4294967296 + e0) / Y ->
        Hid ((R * 4294967296 + e0) % Y / 2 ^ 44 = (h * 18446744073709551616 + l) % y) /\ Hid ((Q1 * 4294967296 % 18446744073709551616 + Q2) % 18446744073709551616 = (h * 18446744073709551616 + l) / y) := by
  have p44 : (2 : Nat) ^ 44 = 17592186044416 := by decide
  have p20 : (2 : Nat) ^ 20 = 1048576 := by decide
  have hG : l / 2 ^ 20 < 2 ^ 44 := by rw [Nat.div_lt_iff_lt_mul (by decide)]; exact Nat.lt_of_lt_of_le hl (by decide)
  have hHY : h * 2 ^ 44 + 2 ^ 44 <= y * 2 ^ 44 := by rw [<- Nat.succ_mul]; exact Nat.mul_le_mul_right _ hh
  have hY1 : y * 2 ^ 44 < 18446744073709551616 := Nat.lt_of_lt_of_le (Nat.mul_lt_mul_of_pos_right h2 (by decide)) (by decide)
  have hY2 : 9223372036854775808 <= y * 2 ^ 44 := Nat.le_trans (by decide) (Nat.mul_le_mul_right (2 ^ 44) h1)
  have hH : h * 2 ^ 44 % 18446744073709551616 = h * 2 ^ 44 := Nat.mod_eq_of_lt (Nat.lt_of_le_of_lt (Nat.le_trans (Nat.le_add_right _ _) hHY) hY1)
  have hor : h * 2 ^ 44 ||| l / 2 ^ 20 = h * 2 ^ 44 + l / 2 ^ 20 := by rw [Nat.mul_comm h]; exact (Nat.two_pow_add_eq_or_of_lt hG h).symm
  refine ⟨y * 2 ^ 44, h * 2 ^ 44, l / 2 ^ 20, h * 2 ^ 44 + l / 2 ^ 20, l * 2 ^ 44 % 18446744073709551616, ⟨Nat.mod_eq_of_lt hY1⟩, ⟨hH⟩, ⟨rfl⟩, ⟨hor⟩, ⟨rfl⟩, hY2, hY1, Nat.lt_of_lt_of_le (Nat.add_lt_add_left hG _) hHY, Nat.mod_lt _ (by decide), by rw [<- hH]; exact Nat.mod_lt _ (by decide), Nat.lt_trans hG (by decide), ?_⟩
  intro e1 e0 R Q1 Q2 he1 he0 hR hQ1 hQ2
  obtain ⟨g1, g2⟩ := divQ (2 ^ 44) (2 ^ 20) 18446744073709551616 4294967296 h l y _ _ _ e1 e0 R Q1 Q2 (by decide) (by decide) (by decide) (by omega) rfl rfl rfl he1 he0 hR hQ1 hQ2
  refine ⟨⟨g1⟩, ⟨?_⟩⟩
  rw [Nat.mod_add_mod, g2]
  apply Nat.mod_eq_of_lt
  rw [Nat.div_lt_iff_lt_mul (by omega)]
  exact Nat.lt_of_lt_of_le (show h * 18446744073709551616 + l < (h + 1) * 18446744073709551616 from by rw [Nat.succ_mul]; exact Nat.add_lt_add_left hl _) (by rw [Nat.mul_comm 18446744073709551616 y]; exact Nat.mul_le_mul_right _ hh)
theorem len8b : ∀ m, 8 <= m -> m < 16 -> tab8[m]? = some 4 := by
  have h : ∀ m : Fin 16, 8 <= m.val -> tab8[m.val]? = some 4 := by decide +kernel
  exact fun m h1 h2 => h ⟨m, h2⟩ h1

theorem len64_20 (y : Nat) (h1 : 524288 <= y) (h2 : y < 1048576) (w : World) : Calls prog 326 #[.int .u64 ((y : Nat) : Int)] w fun e w' => e = .returned (.int .i64 20) /\ Le w w' := by
 refine enter func326 rfl rfl ?_
 have L0 := Le.refl w
 refine WC.sr (W.run 1 rfl (W.nx (WC.seq (WC.sr (W.run 2 rfl (W.nx ?_))))))
 refine WC.condB rfl (fun h => absurd h (by simp; omega)) (fun _ => ?_)
 refine WC.sn (WC.seq (WC.sr (W.run 2 rfl (W.nx ?_))))
 refine WC.condB rfl (fun _ => ?_) (fun h => absurd h (by simp; omega))
 refine WC.sr (W.run 1 rfl ?_)
 refine W.a (.shrE (y) (16) (y / 65536) rfl rfl rfl rfl (by decide) (by omega)) ?_
 refine W.run 1 rfl (W.nx (WC.region (W.run 1 rfl ?_)))
 refine W.a (.add rfl rfl (by omega)) ?_
 refine W.run 1 rfl (W.nx (WC.seq (WC.sr (W.run 2 rfl (W.nx ?_)))))
 refine WC.condB rfl (fun h => absurd h (by simp; omega)) (fun _ => ?_)
 refine WC.sn (WC.sr (W.run 2 rfl ?_))
 refine W.r (.toU8 (y / 65536) (isS underlying27) underlying5 rfl rfl) ?_
 refine W.a (.idxStr (y / 65536) 4 underlying9 rfl rfl (by rw [BitVec.toNat_ofNat, Nat.mod_eq_of_lt (by omega)]) (len8b (y / 65536) (by omega) (by omega))) ?_
 refine W.r (.idI (isS underlying5) underlying3 rfl (IntWalk.i64_in _ (by decide))) ?_
 refine W.a (.add rfl rfl (by decide)) ?_
 refine W.run 1 rfl (W.nx (WC.ret ?_))
 refine E.ret1 rfl rfl ?_
 exact ⟨rfl, L0⟩

theorem lz64_20 (y : Nat) (h1 : 524288 <= y) (h2 : y < 1048576) (w : World) : Calls prog 334 #[.int .u64 ((y : Nat) : Int)] w fun e w' => e = .returned (.int .i64 44) /\ Le w w' := by
 refine enter func334 rfl rfl ?_
 have L0 := Le.refl w
 refine WC.sr (W.run 1 rfl (W.nx (WC.sr (W.run 1 rfl ?_))))
 refine W.cl go326 rfl rfl (len64_20 y h1 h2 w) ?_
 rintro _ w1_1 ⟨rfl, h1_1⟩
 have L1_1 := L0.trans h1_1
 refine W.a (.sub rfl rfl (by decide)) ?_
 refine W.run 1 rfl (W.nx (WC.ret ?_))
 refine E.ret1 rfl rfl ?_
 exact ⟨rfl, L1_1⟩

theorem div64_q44 (h l y : Nat) (h1 : 524288 <= y) (h2 : y < 1048576) (hh : h < y) (hl : l < 18446744073709551616) (w : World) : Calls prog 301 #[.int .u64 ((h : Nat) : Int), .int .u64 ((l : Nat) : Int), .int .u64 ((y : Nat) : Int)] w fun e w' => e = .returned (.tuple #[.int .u64 (((h * 18446744073709551616 + l) / y : Nat) : Int), .int .u64 (((h * 18446744073709551616 + l) % y : Nat) : Int)]) /\ Le w w' := by
 obtain ⟨Y, Hn, Gn, U, v, fY, fH, fG, fU, fv, hYlo, hYhi, hU, hv2, hH2, hG2, fin⟩ := div44 h l y (by omega) (by omega) hh hl
 obtain ⟨a, ha⟩ : ∃ a, a = Y / 4294967296 := ⟨_, rfl⟩
 obtain ⟨b, hb0⟩ : ∃ b, b = Y % 4294967296 := ⟨_, rfl⟩
 obtain ⟨e1, he1⟩ : ∃ e1, e1 = v / 4294967296 := ⟨_, rfl⟩
 obtain ⟨e0, he0⟩ : ∃ e0, e0 = v % 4294967296 := ⟨_, rfl⟩
 have hY : Y = a * 4294967296 + b := by omega
 have ha1 : 2147483648 <= a := by omega
 have ha2 : a < 4294967296 := by omega
 have hb1 : b < 4294967296 := by omega
 have he12 : e1 < 4294967296 := by omega
 have he02 : e0 < 4294967296 := by omega
 obtain ⟨R, hR⟩ : ∃ R, R = (U * 4294967296 + e1) % Y := ⟨_, rfl⟩
 obtain ⟨Q1, hQ1⟩ : ∃ Q1, Q1 = (U * 4294967296 + e1) / Y := ⟨_, rfl⟩
 obtain ⟨Q2, hQ2⟩ : ∃ Q2, Q2 = (R * 4294967296 + e0) / Y := ⟨_, rfl⟩
 have hRY : R < Y := by rw [hR]; exact Nat.mod_lt _ (by omega)
 obtain ⟨hfin, hquo⟩ := fin e1 e0 R Q1 Q2 he1 he0 hR hQ1 hQ2
 have hlz : ∀ w, Calls prog 334 #[.int .u64 ((y : Nat) : Int)] w (fun e w' => e = .returned (.int .i64 44) /\ Le w w') := fun w => by
  exact lz64_20 y (by omega) (by omega) w
 refine enter func301 rfl rfl ?_
 have L0 := Le.refl w
 refine WC.sr (W.run 2 rfl (W.nx (WC.seq (WC.sr (W.run 2 rfl (W.nx ?_))))))
 refine WC.condB rfl (fun h => absurd h (by simp; omega)) (fun _ => ?_)
 refine WC.sn (WC.seq (WC.sr (W.run 3 rfl (W.nx ?_))))
 refine WC.condB rfl (fun h => absurd h (by simp; omega)) (fun _ => ?_)
 refine WC.sn (WC.seq (WC.sr (W.run 2 rfl (W.nx ?_))))
 refine WC.cond rfl (fun c2 => ?_) (fun c2 => ?_)
 ·have h0 : h = 0 := by omega
  subst h0
  refine WC.seq ?_
  refine WC.draw [0, 1, 2, 3, 4, 5, 6, 7] mixed (by kernel_rfl) ?_
  intro w6 d6
  have L6 := L0.trans d6
  refine G.run 2 rfl ?_
  refine G.a rfl (.quoN (l) (y) (l / y) rfl rfl rfl rfl (by omega) (by omega) (rfl)) ?_
  refine G.run 2 rfl ?_
  refine G.a rfl (.remN (l) (y) (l % y) rfl rfl rfl rfl (by omega) (rfl)) ?_
  refine G.run 2 rfl (G.nil (E.thenN (WC.ret (E.thenR ?_))))
  refine E.ret2 rfl rfl rfl ?_
  exact ⟨by rw [Nat.zero_mul, Nat.zero_add], L6⟩
 refine WC.sn (WC.sr (W.run 1 rfl ?_))
 refine W.cl go334 rfl rfl (hlz w) ?_
 rintro _ w7_1 ⟨rfl, h7_1⟩
 have L7_1 := L0.trans h7_1
 refine W.r (.idI (isS underlying3) underlying287 rfl (IntWalk.u64_in _ (by decide))) ?_
 refine W.run 1 rfl (W.nx (WC.sr (W.run 2 rfl ?_)))
 refine W.a (.shlN (y) (44) (Y) rfl rfl rfl rfl (by decide) (fY.out)) ?_
 refine W.run 1 rfl (W.nx (WC.sr (W.run 1 rfl ?_)))
 refine W.a (.shrE (Y) (32) (a) rfl rfl rfl rfl (by decide) (by omega)) ?_
 refine W.run 1 rfl (W.nx (WC.sr (W.run 1 rfl ?_)))
 refine W.a (.andE (Y) (4294967295) (b) rfl rfl rfl rfl (by omega) (by omega) ((mask32 _).trans hb0.symm)) ?_
 refine W.run 1 rfl (W.nx (WC.sr (W.run 2 rfl ?_)))
 refine W.a (.shlN (h) (44) (Hn) rfl rfl rfl rfl (by decide) (fH.out)) ?_
 refine W.run 2 rfl ?_
 refine W.a (.subN (64) (44) (20) rfl rfl rfl rfl (by decide) (by decide)) ?_
 refine W.a (.shrE (l) (20) (Gn) rfl rfl rfl rfl (by decide) (fG.out)) ?_
 refine W.a (.orE (Hn) (Gn) (U) rfl rfl rfl rfl (by omega) (by omega) (fU.out)) ?_
 refine W.run 1 rfl (W.nx (WC.sr (W.run 2 rfl ?_)))
 refine W.a (.shlN (l) (44) (v) rfl rfl rfl rfl (by decide) (fv.out)) ?_
 refine W.run 1 rfl (W.nx (WC.sr (W.run 1 rfl ?_)))
 refine W.a (.shrE (v) (32) (e1) rfl rfl rfl rfl (by decide) (by omega)) ?_
 refine W.run 1 rfl (W.nx (WC.sr (W.run 1 rfl ?_)))
 refine W.a (.andE (v) (4294967295) (e0) rfl rfl rfl rfl (by omega) (by omega) ((mask32 _).trans he0.symm)) ?_
 refine W.run 1 rfl (W.nx (WC.sr (W.run 2 rfl ?_)))
 refine W.a (.quoN (U) (a) (U / a) rfl rfl rfl rfl (by omega) (by omega) (rfl)) ?_
 refine W.run 1 rfl (W.nx (WC.sr (W.run 3 rfl ?_)))
 refine W.a (.mulN (U / a) (a) (U / a * a) rfl rfl rfl rfl (Nat.mod_eq_of_lt (Nat.lt_of_le_of_lt (Nat.div_mul_le_self _ _) (by omega)))) ?_
 refine W.a (.subN (U) (U / a * a) (U % a) rfl rfl rfl rfl (Nat.le_trans (Nat.div_mul_le_self _ _) (by omega)) (sub_div U a (by omega))) ?_
 refine W.run 1 rfl (W.nx ?_)
 refine WC.cut (ι := Unit) (fun () => [(2, .int .u64 ((Y : Nat) : Int)), (8, .int .u64 (44 : Int)), (9, .int .u64 ((a : Nat) : Int)), (10, .int .u64 ((b : Nat) : Int)), (11, .int .u64 ((U : Nat) : Int)), (13, .int .u64 ((e1 : Nat) : Int)), (14, .int .u64 ((e0 : Nat) : Int)), (15, .int .u64 ((Q1 : Nat) : Int))]) (fun () wc15 => Le w wc15) ?_ ?_
 ·refine WC.block ?_
  refine WC.loop (ι := Nat × Nat) (fun ⟨qh, rh⟩ => [(2, .int .u64 ((Y : Nat) : Int)), (8, .int .u64 (44 : Int)), (9, .int .u64 ((a : Nat) : Int)), (10, .int .u64 ((b : Nat) : Int)), (11, .int .u64 ((U : Nat) : Int)), (13, .int .u64 ((e1 : Nat) : Int)), (14, .int .u64 ((e0 : Nat) : Int)), (15, .int .u64 ((qh : Nat) : Int)), (16, .int .u64 ((rh : Nat) : Int))]) (fun ⟨qh, rh⟩ wl => Le w wl /\ qh * a + rh = U /\ Q1 <= qh /\ rh < 4294967296 /\ qh <= 4294967297) (fun ⟨qh, rh⟩ => qh) (U / a, U % a) ?_ ?_ ?_
  ·exact .cons rfl (.cons rfl (.cons rfl (.cons rfl (.cons rfl (.cons rfl (.cons rfl (.cons rfl (.cons rfl (.nil _)))))))))
  ·exact ⟨L7_1, by rw [Nat.mul_comm]; exact Nat.div_add_mod _ _, by rw [hQ1]; exact dig_start hY (by omega) hU (by omega), Nat.lt_of_lt_of_le (Nat.mod_lt _ (by omega)) (by omega), dig_first hY (by omega) (by omega) hU⟩
  rintro ⟨qh, rh⟩ wl ⟨Ll, hi, hq, hr, hq2⟩
  refine WC.seq (WC.sr (W.run 2 rfl ?_))
  by_cases hb : 4294967296 <= qh
  ·refine W.run 1 rfl ?_
   refine W.skip rfl rfl rfl (decide_eq_true (by omega)) rfl rfl ?_
   refine W.skip rfl rfl rfl (decide_eq_true (by omega)) rfl rfl ?_
   refine W.skip rfl rfl rfl (decide_eq_true (by omega)) rfl rfl ?_
   refine W.skip rfl rfl rfl (decide_eq_true (by omega)) rfl rfl ?_
   refine W.skip rfl rfl rfl (decide_eq_true (by omega)) rfl rfl ?_
   refine W.skip rfl rfl rfl (decide_eq_true (by omega)) rfl rfl ?_
   refine W.skip rfl rfl rfl (decide_eq_true (by omega)) rfl rfl ?_
   refine W.skip rfl rfl rfl (decide_eq_true (by omega)) rfl rfl ?_
   refine W.a (.pickT rfl (decide_eq_true (by omega)) rfl) ?_
   have hgt : Q1 < qh := by rw [hQ1]; exact dig_gt hY hU (by omega) hi (by omega)
   have hd : qh * a = (qh - 1) * a + a := by rw [<- Nat.succ_mul]; congr 1; omega
   have hinv : (qh - 1) * a + (rh + a) = U := by omega
   refine W.nx (WC.condT rfl (WC.sn (WC.block (WC.sr (W.run 1 rfl ?_)))))
   refine W.a (.subN (qh) (1) (qh - 1) rfl rfl rfl rfl (by omega) (by omega)) ?_
   refine W.run 1 rfl (W.nx (WC.sr (W.run 2 rfl ?_)))
   refine W.a (.addN (rh) (a) (rh + a) rfl rfl rfl rfl (by omega)) ?_
   refine W.run 1 rfl (W.nx (WC.sr (W.run 2 rfl (W.nx ?_))))
   refine WC.cond rfl (fun c4 => ?_) (fun c4 => ?_)
   ·have hqe : qh - 1 = Q1 := Nat.le_antisymm (by rw [hQ1]; exact dig_brk hY (by omega) hb1 hinv (by omega) (by omega)) (by omega)
    refine WC.exit (E.blkX rfl (E.thenX (E.blkH ?_)))
    refine E.meet () (.cons rfl (.cons rfl (.cons rfl (.cons rfl (.cons rfl (.cons rfl (.cons rfl (.cons' rfl (int_eq (by rw [hqe])) (.nil _))))))))) ?_
    exact Ll
   refine WC.skip (E.blkN ?_)
   refine E.again (qh - 1, rh + a) (.cons rfl (.cons rfl (.cons rfl (.cons rfl (.cons rfl (.cons rfl (.cons rfl (.cons rfl (.cons rfl (.nil _)))))))))) ?_ ?_
   ·exact ⟨Ll, hinv, by omega, by omega, by omega⟩
   first | omega | (simp only []; omega)
  refine W.run 1 rfl ?_
  refine W.rdg (Any.rd (.move rfl) _) rfl rfl rfl (decide_eq_false (by omega)) rfl rfl ?_
  refine W.rdg (Any.rd (.move rfl) _) rfl rfl rfl (decide_eq_false (by omega)) rfl rfl ?_
  have hqb : qh * b < 18446744073709551616 := Nat.lt_of_le_of_lt (Nat.mul_le_mul (show qh <= 4294967295 by omega) (show b <= 4294967295 by omega)) (by decide)
  refine W.rdg (Any.rd (.mulN (qh) (b) (qh * b) rfl rfl rfl rfl (Nat.mod_eq_of_lt hqb)) _) rfl rfl rfl (decide_eq_false (by omega)) rfl rfl ?_
  refine W.rdg (Any.rd (.move rfl) _) rfl rfl rfl (decide_eq_false (by omega)) rfl rfl ?_
  refine W.rdg (Any.rd (.mulN (4294967296) (rh) (4294967296 * rh) rfl rfl rfl rfl (by omega)) _) rfl rfl rfl (decide_eq_false (by omega)) rfl rfl ?_
  refine W.rdg (Any.rd (.move rfl) _) rfl rfl rfl (decide_eq_false (by omega)) rfl rfl ?_
  refine W.rdg (Any.rd (.addN (4294967296 * rh) (e1) (4294967296 * rh + e1) rfl rfl rfl rfl (by omega)) _) rfl rfl rfl (decide_eq_false (by omega)) rfl rfl ?_
  refine W.rdg (Any.rd (.gtr rfl rfl) _) rfl rfl rfl (decide_eq_false (by omega)) rfl rfl ?_
  refine W.a (.pickF rfl (decide_eq_false (by omega)) rfl) ?_
  refine W.nx ?_
  refine WC.cond rfl (fun c3 => ?_) (fun c3 => ?_)
  ·have hgt : Q1 < qh := by rw [hQ1]; exact dig_gt hY hU (by omega) hi (by omega)
   have hd : qh * a = (qh - 1) * a + a := by rw [<- Nat.succ_mul]; congr 1; omega
   have hinv : (qh - 1) * a + (rh + a) = U := by omega
   refine WC.sn (WC.block (WC.sr (W.run 1 rfl ?_)))
   refine W.a (.subN (qh) (1) (qh - 1) rfl rfl rfl rfl (by omega) (by omega)) ?_
   refine W.run 1 rfl (W.nx (WC.sr (W.run 2 rfl ?_)))
   refine W.a (.addN (rh) (a) (rh + a) rfl rfl rfl rfl (by omega)) ?_
   refine W.run 1 rfl (W.nx (WC.sr (W.run 2 rfl (W.nx ?_))))
   refine WC.cond rfl (fun c4 => ?_) (fun c4 => ?_)
   ·have hqe : qh - 1 = Q1 := Nat.le_antisymm (by rw [hQ1]; exact dig_brk hY (by omega) hb1 hinv (by omega) (by omega)) (by omega)
    refine WC.exit (E.blkX rfl (E.thenX (E.blkH ?_)))
    refine E.meet () (.cons rfl (.cons rfl (.cons rfl (.cons rfl (.cons rfl (.cons rfl (.cons rfl (.cons' rfl (int_eq (by rw [hqe])) (.nil _))))))))) ?_
    exact Ll
   refine WC.skip (E.blkN ?_)
   refine E.again (qh - 1, rh + a) (.cons rfl (.cons rfl (.cons rfl (.cons rfl (.cons rfl (.cons rfl (.cons rfl (.cons rfl (.cons rfl (.nil _)))))))))) ?_ ?_
   ·exact ⟨Ll, hinv, by omega, by omega, by omega⟩
   first | omega | (simp only []; omega)
  have hqe : qh = Q1 := Nat.le_antisymm (by rw [hQ1]; exact dig_le hY (by omega) hi (by omega)) hq
  refine WC.exit (E.thenX (E.thenX (E.blkH ?_)))
  refine E.meet () (.cons rfl (.cons rfl (.cons rfl (.cons rfl (.cons rfl (.cons rfl (.cons rfl (.cons' rfl (int_eq (by rw [hqe])) (.nil _))))))))) ?_
  exact Ll
 rintro ⟨⟩ wc15 Lc15
 refine WC.sr (W.run 1 rfl ?_)
 refine W.a (.mulN (U) (4294967296) (U * 4294967296 % 18446744073709551616) rfl rfl rfl rfl (rfl)) ?_
 refine W.run 1 rfl ?_
 refine W.a (.addN (U * 4294967296 % 18446744073709551616) (e1) ((U * 4294967296 + e1) % 18446744073709551616) rfl rfl rfl rfl (by rw [Nat.mod_add_mod])) ?_
 refine W.run 2 rfl ?_
 refine W.a (.mulN (Q1) (Y) (Q1 * Y % 18446744073709551616) rfl rfl rfl rfl (rfl)) ?_
 refine W.a (.subN ((U * 4294967296 + e1) % 18446744073709551616) (Q1 * Y % 18446744073709551616) (R) rfl rfl rfl rfl (Nat.le_of_lt (Nat.mod_lt _ (by decide))) ((dig_rest Y _ _ hQ1 (by omega) (by omega)).trans hR.symm)) ?_
 refine W.run 1 rfl (W.nx (WC.sr (W.run 2 rfl ?_)))
 refine W.a (.quoN (R) (a) (R / a) rfl rfl rfl rfl (by omega) (by omega) (rfl)) ?_
 refine W.run 1 rfl (W.nx (WC.sr (W.run 3 rfl ?_)))
 refine W.a (.mulN (R / a) (a) (R / a * a) rfl rfl rfl rfl (Nat.mod_eq_of_lt (Nat.lt_of_le_of_lt (Nat.div_mul_le_self _ _) (by omega)))) ?_
 refine W.a (.subN (R) (R / a * a) (R % a) rfl rfl rfl rfl (Nat.le_trans (Nat.div_mul_le_self _ _) (by omega)) (sub_div R a (by omega))) ?_
 refine W.run 1 rfl (W.nx ?_)
 refine WC.cut (ι := Unit) (fun () => [(2, .int .u64 ((Y : Nat) : Int)), (8, .int .u64 (44 : Int)), (9, .int .u64 ((a : Nat) : Int)), (10, .int .u64 ((b : Nat) : Int)), (14, .int .u64 ((e0 : Nat) : Int)), (17, .int .u64 ((R : Nat) : Int)), (15, .int .u64 ((Q1 : Nat) : Int)), (18, .int .u64 ((Q2 : Nat) : Int))]) (fun () wc18 => Le w wc18) ?_ ?_
 ·refine WC.block ?_
  refine WC.loop (ι := Nat × Nat) (fun ⟨qh, rh⟩ => [(2, .int .u64 ((Y : Nat) : Int)), (8, .int .u64 (44 : Int)), (9, .int .u64 ((a : Nat) : Int)), (10, .int .u64 ((b : Nat) : Int)), (14, .int .u64 ((e0 : Nat) : Int)), (17, .int .u64 ((R : Nat) : Int)), (15, .int .u64 ((Q1 : Nat) : Int)), (18, .int .u64 ((qh : Nat) : Int)), (16, .int .u64 ((rh : Nat) : Int))]) (fun ⟨qh, rh⟩ wl => Le w wl /\ qh * a + rh = R /\ Q2 <= qh /\ rh < 4294967296 /\ qh <= 4294967297) (fun ⟨qh, rh⟩ => qh) (R / a, R % a) ?_ ?_ ?_
  ·exact .cons rfl (.cons rfl (.cons rfl (.cons rfl (.cons rfl (.cons rfl (.cons rfl (.cons rfl (.cons rfl (.nil _)))))))))
  ·exact ⟨Lc15, by rw [Nat.mul_comm]; exact Nat.div_add_mod _ _, by rw [hQ2]; exact dig_start hY (by omega) hRY (by omega), Nat.lt_of_lt_of_le (Nat.mod_lt _ (by omega)) (by omega), dig_first hY (by omega) (by omega) hRY⟩
  rintro ⟨qh, rh⟩ wl ⟨Ll, hi, hq, hr, hq2⟩
  refine WC.seq (WC.sr (W.run 2 rfl ?_))
  by_cases hb : 4294967296 <= qh
  ·refine W.run 1 rfl ?_
   refine W.skip rfl rfl rfl (decide_eq_true (by omega)) rfl rfl ?_
   refine W.skip rfl rfl rfl (decide_eq_true (by omega)) rfl rfl ?_
   refine W.skip rfl rfl rfl (decide_eq_true (by omega)) rfl rfl ?_
   refine W.skip rfl rfl rfl (decide_eq_true (by omega)) rfl rfl ?_
   refine W.skip rfl rfl rfl (decide_eq_true (by omega)) rfl rfl ?_
   refine W.skip rfl rfl rfl (decide_eq_true (by omega)) rfl rfl ?_
   refine W.skip rfl rfl rfl (decide_eq_true (by omega)) rfl rfl ?_
   refine W.skip rfl rfl rfl (decide_eq_true (by omega)) rfl rfl ?_
   refine W.a (.pickT rfl (decide_eq_true (by omega)) rfl) ?_
   have hgt : Q2 < qh := by rw [hQ2]; exact dig_gt hY hRY (by omega) hi (by omega)
   have hd : qh * a = (qh - 1) * a + a := by rw [<- Nat.succ_mul]; congr 1; omega
   have hinv : (qh - 1) * a + (rh + a) = R := by omega
   refine W.nx (WC.condT rfl (WC.sn (WC.block (WC.sr (W.run 1 rfl ?_)))))
   refine W.a (.subN (qh) (1) (qh - 1) rfl rfl rfl rfl (by omega) (by omega)) ?_
   refine W.run 1 rfl (W.nx (WC.sr (W.run 2 rfl ?_)))
   refine W.a (.addN (rh) (a) (rh + a) rfl rfl rfl rfl (by omega)) ?_
   refine W.run 1 rfl (W.nx (WC.sr (W.run 2 rfl (W.nx ?_))))
   refine WC.cond rfl (fun c6 => ?_) (fun c6 => ?_)
   ·have hqe : qh - 1 = Q2 := Nat.le_antisymm (by rw [hQ2]; exact dig_brk hY (by omega) hb1 hinv (by omega) (by omega)) (by omega)
    refine WC.exit (E.blkX rfl (E.thenX (E.blkH ?_)))
    refine E.meet () (.cons rfl (.cons rfl (.cons rfl (.cons rfl (.cons rfl (.cons rfl (.cons rfl (.cons' rfl (int_eq (by rw [hqe])) (.nil _))))))))) ?_
    exact Ll
   refine WC.skip (E.blkN ?_)
   refine E.again (qh - 1, rh + a) (.cons rfl (.cons rfl (.cons rfl (.cons rfl (.cons rfl (.cons rfl (.cons rfl (.cons rfl (.cons rfl (.nil _)))))))))) ?_ ?_
   ·exact ⟨Ll, hinv, by omega, by omega, by omega⟩
   first | omega | (simp only []; omega)
  refine W.run 1 rfl ?_
  refine W.rdg (Any.rd (.move rfl) _) rfl rfl rfl (decide_eq_false (by omega)) rfl rfl ?_
  refine W.rdg (Any.rd (.move rfl) _) rfl rfl rfl (decide_eq_false (by omega)) rfl rfl ?_
  have hqb : qh * b < 18446744073709551616 := Nat.lt_of_le_of_lt (Nat.mul_le_mul (show qh <= 4294967295 by omega) (show b <= 4294967295 by omega)) (by decide)
  refine W.rdg (Any.rd (.mulN (qh) (b) (qh * b) rfl rfl rfl rfl (Nat.mod_eq_of_lt hqb)) _) rfl rfl rfl (decide_eq_false (by omega)) rfl rfl ?_
  refine W.rdg (Any.rd (.move rfl) _) rfl rfl rfl (decide_eq_false (by omega)) rfl rfl ?_
  refine W.rdg (Any.rd (.mulN (4294967296) (rh) (4294967296 * rh) rfl rfl rfl rfl (by omega)) _) rfl rfl rfl (decide_eq_false (by omega)) rfl rfl ?_
  refine W.rdg (Any.rd (.move rfl) _) rfl rfl rfl (decide_eq_false (by omega)) rfl rfl ?_
  refine W.rdg (Any.rd (.addN (4294967296 * rh) (e0) (4294967296 * rh + e0) rfl rfl rfl rfl (by omega)) _) rfl rfl rfl (decide_eq_false (by omega)) rfl rfl ?_
  refine W.rdg (Any.rd (.gtr rfl rfl) _) rfl rfl rfl (decide_eq_false (by omega)) rfl rfl ?_
  refine W.a (.pickF rfl (decide_eq_false (by omega)) rfl) ?_
  refine W.nx ?_
  refine WC.cond rfl (fun c5 => ?_) (fun c5 => ?_)
  ·have hgt : Q2 < qh := by rw [hQ2]; exact dig_gt hY hRY (by omega) hi (by omega)
   have hd : qh * a = (qh - 1) * a + a := by rw [<- Nat.succ_mul]; congr 1; omega
   have hinv : (qh - 1) * a + (rh + a) = R := by omega
   refine WC.sn (WC.block (WC.sr (W.run 1 rfl ?_)))
   refine W.a (.subN (qh) (1) (qh - 1) rfl rfl rfl rfl (by omega) (by omega)) ?_
   refine W.run 1 rfl (W.nx (WC.sr (W.run 2 rfl ?_)))
   refine W.a (.addN (rh) (a) (rh + a) rfl rfl rfl rfl (by omega)) ?_
   refine W.run 1 rfl (W.nx (WC.sr (W.run 2 rfl (W.nx ?_))))
   refine WC.cond rfl (fun c6 => ?_) (fun c6 => ?_)
   ·have hqe : qh - 1 = Q2 := Nat.le_antisymm (by rw [hQ2]; exact dig_brk hY (by omega) hb1 hinv (by omega) (by omega)) (by omega)
    refine WC.exit (E.blkX rfl (E.thenX (E.blkH ?_)))
    refine E.meet () (.cons rfl (.cons rfl (.cons rfl (.cons rfl (.cons rfl (.cons rfl (.cons rfl (.cons' rfl (int_eq (by rw [hqe])) (.nil _))))))))) ?_
    exact Ll
   refine WC.skip (E.blkN ?_)
   refine E.again (qh - 1, rh + a) (.cons rfl (.cons rfl (.cons rfl (.cons rfl (.cons rfl (.cons rfl (.cons rfl (.cons rfl (.cons rfl (.nil _)))))))))) ?_ ?_
   ·exact ⟨Ll, hinv, by omega, by omega, by omega⟩
   first | omega | (simp only []; omega)
  have hqe : qh = Q2 := Nat.le_antisymm (by rw [hQ2]; exact dig_le hY (by omega) hi (by omega)) hq
  refine WC.exit (E.thenX (E.thenX (E.blkH ?_)))
  refine E.meet () (.cons rfl (.cons rfl (.cons rfl (.cons rfl (.cons rfl (.cons rfl (.cons rfl (.cons' rfl (int_eq (by rw [hqe])) (.nil _))))))))) ?_
  exact Ll
 rintro ⟨⟩ wc18 Lc18
 refine WC.sr (W.run 1 rfl ?_)
 refine W.a (.mulN (Q1) (4294967296) (Q1 * 4294967296 % 18446744073709551616) rfl rfl rfl rfl (rfl)) ?_
 refine W.run 1 rfl ?_
 refine W.a (.addN (Q1 * 4294967296 % 18446744073709551616) (Q2) ((Q1 * 4294967296 % 18446744073709551616 + Q2) % 18446744073709551616) rfl rfl rfl rfl (rfl)) ?_
 refine W.run 1 rfl ?_
 refine W.a (.mulN (R) (4294967296) (R * 4294967296 % 18446744073709551616) rfl rfl rfl rfl (rfl)) ?_
 refine W.run 1 rfl ?_
 refine W.a (.addN (R * 4294967296 % 18446744073709551616) (e0) ((R * 4294967296 + e0) % 18446744073709551616) rfl rfl rfl rfl (by rw [Nat.mod_add_mod])) ?_
 refine W.run 2 rfl ?_
 refine W.a (.mulN (Q2) (Y) (Q2 * Y % 18446744073709551616) rfl rfl rfl rfl (rfl)) ?_
 refine W.a (.subN ((R * 4294967296 + e0) % 18446744073709551616) (Q2 * Y % 18446744073709551616) ((R * 4294967296 + e0) % Y) rfl rfl rfl rfl (Nat.le_of_lt (Nat.mod_lt _ (by decide))) (dig_rest Y _ _ hQ2 (by omega) (by omega))) ?_
 refine W.run 1 rfl ?_
 refine W.a (.shrE ((R * 4294967296 + e0) % Y) (44) ((h * 18446744073709551616 + l) % y) rfl rfl rfl rfl (by decide) (hfin.out)) ?_
 refine W.run 2 rfl (W.nx (WC.ret ?_))
 refine E.ret2 rfl rfl rfl ?_
 exact ⟨by rw [hquo.out], Lc18⟩
end Go.Proofs.YtocheaahlpiajaaGreatDoor

namespace Go.Proofs.YtocheaahlpiajaaGreatDoor
open Tryz
open Go Go.Sx Go.Num
set_option maxRecDepth 20000
theorem times_ok (a b : Nat) (ha : a < 18446744073709551616) (hb : b < 18446744073709551616) (w : World) : Calls prog 244 #[.int .u64 ((a : Nat) : Int), .int .u64 ((b : Nat) : Int)] w fun e w' => e = .returned (.int .u64 ((a * b % M : Nat) : Int)) /\ Le w w' := by
 refine enter func244 rfl rfl ?_
 have L0 := Le.refl w
 refine WC.sr (W.run 1 rfl (W.nx (WC.sr (W.run 2 rfl ?_))))
 refine W.cl go302 rfl rfl (mul64_ok a b ha hb w) ?_
 rintro _ w1_2 ⟨rfl, h1_2⟩
 have L1_2 := L0.trans h1_2
 refine W.run 1 rfl ?_
 refine W.a (.extract rfl rfl) ?_
 refine W.a (.extract rfl rfl) ?_
 refine W.run 2 rfl (W.nx (WC.sr (W.run 2 rfl ?_)))
 refine W.cl go243 rfl rfl (rem64_ok (a * b / 18446744073709551616) (a * b % 18446744073709551616) 4611686018427377339 (by decide) (by decide) (Nat.mod_lt _ (by decide)) w1_2) ?_
 rintro _ w2_2 ⟨rfl, h2_2⟩
 have L2_2 := L1_2.trans h2_2
 refine W.run 1 rfl (W.nx (WC.ret ?_))
 refine E.ret1 rfl rfl ?_
 exact ⟨by rw [Nat.div_add_mod']; rfl, L2_2⟩

theorem power_ok (a n : Nat) (ha : a < 18446744073709551616) (hn : n < 18446744073709551616) (w : World) : Calls prog 170 #[.int .u64 ((a : Nat) : Int), .int .u64 ((n : Nat) : Int)] w fun e w' => e = .returned (.int .u64 ((pw a n : Nat) : Int)) /\ Le w w' := by
 refine enter func170 rfl rfl ?_
 have L0 := Le.refl w
 refine WC.sr (W.run 1 rfl (W.nx (WC.sr (W.run 1 rfl (W.nx (WC.seq (WC.block ?_)))))))
 refine WC.loop (ι := Nat × Nat × Nat) (fun ⟨b, m, out⟩ => [(0, .int .u64 ((b : Nat) : Int)), (1, .int .u64 ((m : Nat) : Int)), (5, .int .u64 ((out : Nat) : Int))]) (fun ⟨b, m, out⟩ wl => Le w wl /\ b < 18446744073709551616 /\ m < 18446744073709551616 /\ out < M /\ out * b ^ m % M = pw a n) (fun ⟨b, m, out⟩ => m) (a, n, 1) ?_ ?_ ?_
 ·exact .cons rfl (.cons rfl (.cons rfl (.nil _)))
 ·exact ⟨L0, ha, hn, M_one, pw_start a n hn⟩
 rintro ⟨b, m, out⟩ wl ⟨Ll, hb, hm, ho, hi⟩
 refine WC.seq (WC.sr (W.run 2 rfl (W.nx ?_)))
 refine WC.cond rfl (fun c0 => ?_) (fun c0 => ?_)
 ·have hbb : b * b % M < 18446744073709551616 := Nat.lt_trans (Nat.mod_lt _ (by decide)) (by decide)
  have ho2 : out < 18446744073709551616 := Nat.lt_trans ho (by decide)
  refine WC.sn (WC.seq (WC.block (WC.seq (WC.sr (W.run 1 rfl ?_)))))
  refine W.a (.andE (m) (1) (m % 2) rfl rfl rfl rfl (by omega) (by omega) (mask1 _)) ?_
  refine W.run 1 rfl (W.nx ?_)
  refine WC.cond rfl (fun c1 => ?_) (fun c1 => ?_)
  ·refine WC.region (W.run 2 rfl ?_)
   refine W.cl go244 rfl rfl (times_ok out b ho2 hb wl) ?_
   rintro _ w5_2 ⟨rfl, h5_2⟩
   have L5_2 := Ll.trans h5_2
   refine W.run 1 rfl (W.nx (WC.region (W.run 2 rfl ?_)))
   refine W.cl go244 rfl rfl (times_ok b b hb hb w5_2) ?_
   rintro _ w6_2 ⟨rfl, h6_2⟩
   have L6_2 := L5_2.trans h6_2
   refine W.run 1 rfl (W.nil (E.blkN (E.thenN (WC.region (W.run 1 rfl ?_)))))
   refine W.a (.shrE (m) (1) (m / 2) rfl rfl rfl rfl (by decide) (rfl)) ?_
   refine W.run 1 rfl (W.nil ?_)
   refine E.again (b * b % M, m / 2, out * b % M) (.cons rfl (.cons rfl (.cons rfl (.nil _)))) ?_ ?_
   ·exact ⟨L6_2, hbb, by omega, Nat.mod_lt _ (by decide), by rw [step1 b m out (by omega)]; exact hi⟩
   first | omega | (simp only []; omega)
  refine WC.sn (WC.region (W.run 2 rfl ?_))
  refine W.cl go244 rfl rfl (times_ok b b hb hb wl) ?_
  rintro _ w6_2 ⟨rfl, h6_2⟩
  have L6_2 := Ll.trans h6_2
  refine W.run 1 rfl (W.nil (E.blkN (E.thenN (WC.region (W.run 1 rfl ?_)))))
  refine W.a (.shrE (m) (1) (m / 2) rfl rfl rfl rfl (by decide) (rfl)) ?_
  refine W.run 1 rfl (W.nil ?_)
  refine E.again (b * b % M, m / 2, out) (.cons rfl (.cons rfl (.cons rfl (.nil _)))) ?_ ?_
  ·exact ⟨L6_2, hbb, by omega, ho, by rw [step0 b m out (by omega)]; exact hi⟩
  first | omega | (simp only []; omega)
 have hm0 : m = 0 := by omega
 subst hm0
 rw [pw_end b out ho] at hi
 refine WC.exit (E.thenX (E.thenX (E.blkH (E.thenN (WC.sr (W.run 2 rfl (W.nx (WC.ret ?_))))))))
 refine E.ret1 rfl rfl ?_
 exact ⟨by rw [hi], Ll⟩

theorem dec1 (x : Nat) : decide ((x : Int) = 1) = decide (x = 1) := decide_eq_decide.2 (by omega)

theorem pright_ok (p : Nat) (hp : p < 18446744073709551616) (w : World) : Calls prog 75 #[.int .u64 ((p : Nat) : Int)] w fun e w' => e = .returned (.bool (right p)) /\ Le w w' := by
 refine enter func75 rfl rfl ?_
 have L0 := Le.refl w
 refine WC.sr (W.run 1 rfl (W.nx (WC.sr (W.run 1 rfl ?_))))
 by_cases h0 : 0 < p
 ·refine W.a (.dec (.gtr rfl rfl) (decide_eq_true (by omega))) ?_
  refine W.run 2 rfl ?_
  by_cases h1 : p < 4611686018427377339
  ·refine W.g (Any.rd (.dec (.lss rfl rfl) (decide_eq_true (by omega))) _) ?_
   refine W.run 3 rfl ?_
   refine W.efg rfl rfl rfl (rfl) rfl rfl ?_
   refine Ef.call go170 rfl rfl (power_ok p 2305843009213688669 hp (by decide) w) ?_
   rintro _ w1_8 ⟨rfl, h1_8⟩
   refine ⟨_, rfl, ?_⟩
   have L1_8 := L0.trans h1_8
   refine W.run 3 rfl (W.nx (WC.ret ?_))
   refine E.ret1 rfl rfl ?_
   exact ⟨by rw [right, decide_eq_true h0, decide_eq_true (show p < M from h1), Bool.true_and, Bool.true_and, <- dec1]; rfl, L1_8⟩
  refine W.g (Any.rd (.dec (.lss rfl rfl) (decide_eq_false (by omega))) _) ?_
  refine W.run 7 rfl (W.nx (WC.ret ?_))
  refine E.ret1 rfl rfl ?_
  exact ⟨by rw [right, decide_eq_false (show ¬ p < M from h1), Bool.and_false, Bool.false_and], L0⟩
 refine W.a (.dec (.gtr rfl rfl) (decide_eq_false (by omega))) ?_
 refine W.run 10 rfl (W.nx (WC.ret ?_))
 refine E.ret1 rfl rfl ?_
 exact ⟨by rw [right, decide_eq_false h0, Bool.false_and, Bool.false_and], L0⟩

theorem taken_ok (p : Nat) (hp : p < 18446744073709551616) (w : World) : Calls prog 172 #[.int .u64 ((p : Nat) : Int)] w fun e w' => e = .returned (.int .u64 ((taken p : Nat) : Int)) /\ Le w w' := by
 refine enter func172 rfl rfl ?_
 have L0 := Le.refl w
 refine WC.sr (W.run 1 rfl (W.nx (WC.seq (WC.sr (W.run 1 rfl ?_)))))
 refine W.cl go75 rfl rfl (pright_ok p hp w) ?_
 rintro _ w1_1 ⟨rfl, h1_1⟩
 have L1_1 := L0.trans h1_1
 refine W.nx ?_
 refine WC.condB rfl (fun c0 => ?_) (fun c0 => ?_)
 ·refine WC.sr (W.run 2 rfl (W.nx (WC.ret (E.thenR ?_))))
  refine E.ret1 rfl rfl ?_
  exact ⟨by rw [taken, if_pos c0], L1_1⟩
 refine WC.sn (WC.sr (W.run 1 rfl (W.nx (WC.ret ?_))))
 refine E.ret1 rfl rfl ?_
 exact ⟨by rw [taken, if_neg (by rw [c0]; simp)]; rfl, L1_1⟩

theorem taken_lt (p : Nat) : taken p < 18446744073709551616 := Nat.lt_trans ((right_iff _).1 (right_taken p)).2.1 (by decide)

theorem scale_ok (p k : Nat) (hp : p < 18446744073709551616) (w : World) : Calls prog 77 #[.int .u64 ((p : Nat) : Int), .int .u64 ((k : Nat) : Int)] w fun e w' => e = .returned (.int .u64 ((scale p k : Nat) : Int)) /\ Le w w' := by
 refine enter func77 rfl rfl ?_
 have L0 := Le.refl w
 refine WC.sr (W.run 1 rfl (W.nx (WC.sr (W.run 1 rfl ?_))))
 refine W.cl go172 rfl rfl (taken_ok p hp w) ?_
 rintro _ w1_1 ⟨rfl, h1_1⟩
 have L1_1 := L0.trans h1_1
 refine W.run 1 rfl ?_
 refine W.a (.remN (k) (2305843009213688669) (k % 2305843009213688669) rfl rfl rfl rfl (by decide) (rfl)) ?_
 refine W.cl go170 rfl rfl (power_ok (taken p) (k % 2305843009213688669) (taken_lt p) (by omega) w1_1) ?_
 rintro _ w1_4 ⟨rfl, h1_4⟩
 have L1_4 := L1_1.trans h1_4
 refine W.run 1 rfl (W.nx (WC.ret ?_))
 refine E.ret1 rfl rfl ?_
 exact ⟨rfl, L1_4⟩

theorem base_ok (k : Nat) (w : World) : Calls prog 20 #[.int .u64 ((k : Nat) : Int)] w fun e w' => e = .returned (.int .u64 ((base k : Nat) : Int)) /\ Le w w' := by
 refine enter func20 rfl rfl ?_
 have L0 := Le.refl w
 refine WC.sr (W.run 1 rfl (W.nx (WC.sr (W.run 1 rfl ?_))))
 refine W.cl go77 rfl rfl (scale_ok 4 k (by decide) w) ?_
 rintro _ w1_1 ⟨rfl, h1_1⟩
 have L1_1 := L0.trans h1_1
 refine W.run 1 rfl (W.nx (WC.ret ?_))
 refine E.ret1 rfl rfl ?_
 exact ⟨rfl, L1_1⟩

theorem of_ok (a : Nat) (w : World) : Calls prog 227 #[.int .u64 ((a : Nat) : Int)] w fun e w' => e = .returned (.int .u64 ((a % q : Nat) : Int)) /\ Le w w' := by
 refine enter func227 rfl rfl ?_
 have L0 := Le.refl w
 refine WC.sr (W.run 1 rfl (W.nx (WC.sr (W.run 1 rfl ?_))))
 refine W.a (.remN (a) (2305843009213688669) (a % 2305843009213688669) rfl rfl rfl rfl (by decide) (rfl)) ?_
 refine W.run 1 rfl (W.nx (WC.ret ?_))
 refine E.ret1 rfl rfl ?_
 exact ⟨rfl, L0⟩

theorem from_ok (h : List (BitVec 8)) (hh : h.length = 32) (w : World) : Calls prog 169 #[.agg (h.map u8v).toArray] w fun e w' => e = .returned (.int .u64 ((fromB h : Nat) : Int)) /\ Le w w' := by
 refine enter func169 rfl rfl ?_
 have L0 := Le.refl w
 refine WC.sr (W.ef rfl rfl rfl ?_)
 refine Ef.boxA rfl ?_
 intro g0_0 w0_0 hg0_0 b0_0 h0_0
 have L0_0 := L0.trans h0_0
 refine W.run 1 rfl (W.nx (WC.sr (W.run 1 rfl (W.nx (WC.seq (WC.sr ?_))))))
 refine W.r (.loadAll ag30 (by simp [hh]) rfl (b0_0)) ?_
 refine W.run 1 rfl (W.nx (WC.block ?_))
 refine WC.loop (ι := Nat) (fun k => [(6, .agg (h.map u8v).toArray), (7, .int .i64 (k : Int)), (3, .int .u64 ((fromTo 0 (h.take k) : Nat) : Int))]) (fun k wl => k <= 32 /\ Le w wl) (fun k => 32 - k) 0 ?_ ?_ ?_
 ·exact .cons rfl (.cons rfl (.cons rfl (.nil _)))
 ·exact ⟨by omega, L0_0⟩
 rintro k wl ⟨hk, Ll⟩
 have hlt : fromTo 0 (h.take k) < q - 1 := fromTo_lt _ 0 (by decide)
 have hlt2 : fromTo 0 (h.take k) < 2305843009213688668 := hlt
 refine WC.sr (W.run 1 rfl (W.nx (WC.seq ?_)))
 refine WC.cond rfl (fun c0 => ?_) (fun c0 => ?_)
 ·have hb : h[k]? = some (h.getD k 0) := by rw [List.getElem?_eq_getElem (by omega), List.getD_eq_getElem?_getD, List.getElem?_eq_getElem (by omega)]; rfl
  have hbl := (h.getD k 0).isLt
  refine WC.sn (WC.seq (WC.block (WC.sr ?_)))
  refine W.a (.as (Any.idxV k underlying30 underlying5 sz5 hh rfl rfl rfl (by omega)) (show u8v (h.getD k 0) = _ from rfl)) ?_
  refine W.run 1 rfl (W.nx (WC.region (W.run 1 rfl ?_)))
  refine W.a (.shrE (fromTo 0 (h.take k)) (56) (fromTo 0 (h.take k) / 72057594037927936) rfl rfl rfl rfl (by decide) (rfl)) ?_
  refine W.run 1 rfl ?_
  refine W.a (.shlN (fromTo 0 (h.take k)) (8) (fromTo 0 (h.take k) * 256 % 18446744073709551616) rfl rfl rfl rfl (by decide) (rfl)) ?_
  refine W.run 1 rfl ?_
  refine W.r (.u8to64 (isS underlying5) underlying27 rfl) ?_
  refine W.a (.orE (fromTo 0 (h.take k) * 256 % 18446744073709551616) ((h.getD k 0).toNat) (fromTo 0 (h.take k) * 256 % 18446744073709551616 + (h.getD k 0).toNat) rfl rfl rfl rfl (by omega) (by omega) (or_byteM _ _ hbl)) ?_
  refine W.cl go243 rfl rfl (rem64_ok (fromTo 0 (h.take k) / 72057594037927936) (fromTo 0 (h.take k) * 256 % 18446744073709551616 + (h.getD k 0).toNat) 2305843009213688668 (by decide) (by decide) (by omega) wl) ?_
  rintro _ w5_7 ⟨rfl, h5_7⟩
  have L5_7 := Ll.trans h5_7
  refine W.run 1 rfl (W.nil (E.blkN (E.thenN (WC.region ?_))))
  refine W.a (.add rfl rfl (by omega)) ?_
  refine W.run 1 rfl (W.nil ?_)
  refine E.again (k + 1) (.cons rfl (.cons rfl (.cons' rfl (int_eq (congrArg Nat.cast (by rw [fromTo_snoc h k 0 _ hb, show q - 1 = 2305843009213688668 from rfl]; congr 1; omega))) (.nil _)))) ?_ ?_
  ·exact ⟨by omega, L5_7⟩
  first | omega | (simp only []; omega)
 have hk32 : k = 32 := by omega
 subst hk32
 refine WC.exit (E.thenX (E.thenX (E.blkH (E.thenN (WC.sr (W.run 1 rfl ?_))))))
 refine W.a (.addN (fromTo 0 (h.take 32)) (1) (fromTo 0 (h.take 32) + 1) rfl rfl rfl rfl (by omega)) ?_
 refine W.run 1 rfl (W.nx (WC.ret ?_))
 refine E.ret1 rfl rfl ?_
 exact ⟨by rw [fromB, List.take_of_length_le (by omega)], Ll⟩



theorem all2_ok (a b g : Nat) (ha : a < 18446744073709551616) (hb : b < 18446744073709551616) (w : World) (hB : Blk w g 43 #[.int .u64 ((a : Nat) : Int), .int .u64 ((b : Nat) : Int)]) : Calls prog 245 #[.slice (some ⟨g, 0, none⟩) 2 2] w fun e w' => e = .returned (.int .u64 ((addP a b : Nat) : Int)) /\ Le w w' := by
 refine enter func245 rfl rfl ?_
 have L0 := Le.refl w
 refine WC.sr (W.run 1 rfl (W.nx (WC.sr (W.run 1 rfl (W.nx (WC.seq (WC.sr (W.run 1 rfl ?_))))))))
 refine W.r (.len underlying39 rfl) ?_
 refine W.run 1 rfl (W.nx (WC.block ?_))
 refine WC.loop (ι := Nat × Nat) (fun ⟨k, out⟩ => [(3, .int .u64 ((out : Nat) : Int)), (6, .slice (some ⟨g, 0, none⟩) 2 2), (7, .int .i64 2), (8, .int .i64 (k : Int))]) (fun ⟨k, out⟩ wl => k <= 2 /\ Le w wl /\ out = (if k = 0 then 1 else if k = 1 then 1 * taken a % M else (1 * taken a % M) * taken b % M)) (fun ⟨k, out⟩ => 2 - k) (0, 1) ?_ ?_ ?_
 ·exact .cons rfl (.cons rfl (.cons rfl (.cons rfl (.nil _))))
 ·exact ⟨by omega, L0, rfl⟩
 rintro ⟨k, out⟩ wl ⟨hk, Ll, ho⟩
 refine WC.sr (W.run 1 rfl (W.nx (WC.seq ?_)))
 refine WC.cond rfl (fun c0 => ?_) (fun c0 => ?_)
 ·have hk2 : k = 0 \/ k = 1 := by omega
  have ho2 : out < 18446744073709551616 := by
   rw [ho]; rcases hk2 with rfl | rfl
   ·rw [if_pos rfl]; decide
   rw [if_neg (by decide), if_pos rfl]; exact Nat.lt_trans (Nat.mod_lt _ (by decide)) (by decide)
  obtain ⟨p, hp1, hp2, hp3⟩ : ∃ p : Nat, (#[.int .u64 ((a : Nat) : Int), .int .u64 ((b : Nat) : Int)] : Array Value)[k]? = some (.int .u64 ((p : Nat) : Int)) /\ (if k = 0 then a else b) = p /\ p < 18446744073709551616 := by
   rcases hk2 with rfl | rfl
   ·exact ⟨a, rfl, rfl, ha⟩
   exact ⟨b, rfl, rfl, hb⟩
  have hstep : out * taken p % M = (if k + 1 = 0 then 1 else if k + 1 = 1 then 1 * taken a % M else (1 * taken a % M) * taken b % M) := by
   rw [ho, <- hp2]; rcases hk2 with rfl | rfl <;> rfl
  refine WC.sn (WC.seq (WC.block (WC.sr ?_)))
  refine W.a (.idxB1 (k) underlying39 sz43 rfl rfl (rfl) (by omega)) ?_
  refine W.r (.loadB na43 rfl (hB.le Ll) (hp1)) ?_
  refine W.run 1 rfl (W.nx (WC.region (W.run 2 rfl ?_)))
  refine W.cl go172 rfl rfl (taken_ok p hp3 wl) ?_
  rintro _ w5_2 ⟨rfl, h5_2⟩
  have L5_2 := Ll.trans h5_2
  refine W.cl go244 rfl rfl (times_ok out (taken p) ho2 (taken_lt p) w5_2) ?_
  rintro _ w5_3 ⟨rfl, h5_3⟩
  have L5_3 := L5_2.trans h5_3
  refine W.run 1 rfl (W.nil (E.blkN (E.thenN (WC.region ?_))))
  refine W.a (.add rfl rfl (by omega)) ?_
  refine W.run 1 rfl (W.nil ?_)
  refine E.again (k + 1, out * taken p % M) (.cons rfl (.cons rfl (.cons rfl (.cons rfl (.nil _))))) ?_ ?_
  ·exact ⟨by omega, L5_3, hstep⟩
  first | omega | (simp only []; omega)
 have hk2 : k = 2 := by omega
 subst hk2
 have hres : out = addP a b := by rw [ho, addP, Nat.one_mul]; simp only [Nat.reduceEqDiff, if_false]; rw [Nat.mul_mod, Nat.mod_mod, <- Nat.mul_mod]
 refine WC.exit (E.thenX (E.thenX (E.blkH (E.thenN (WC.sr (W.run 2 rfl (W.nx (WC.ret ?_))))))))
 refine E.ret1 rfl rfl ?_
 exact ⟨by rw [hres], Ll⟩

theorem padd_ok (a b : Nat) (ha : a < 18446744073709551616) (hb : b < 18446744073709551616) (w : World) : Calls prog 171 #[.int .u64 ((a : Nat) : Int), .int .u64 ((b : Nat) : Int)] w fun e w' => e = .returned (.int .u64 ((addP a b : Nat) : Int)) /\ Le w w' := by
 refine enter func171 rfl rfl ?_
 have L0 := Le.refl w
 refine WC.sr (W.run 1 rfl (W.nx (WC.sr (W.run 2 rfl (W.ef rfl rfl rfl ?_)))))
 refine Ef.buildSliceN [_, _] underlying39 el43 rfl (by intro v hv; simp at hv; rcases hv with rfl | rfl <;> rfl) rfl (by decide) (by decide) ?_
 intro g1_2 w1_2 hg1_2 b1_2 h1_2
 have L1_2 := L0.trans h1_2
 refine W.cl go245 rfl rfl (all2_ok a b g1_2 ha hb w1_2 b1_2) ?_
 rintro _ w1_3 ⟨rfl, h1_3⟩
 have L1_3 := L1_2.trans h1_3
 refine W.run 1 rfl (W.nx (WC.ret ?_))
 refine E.ret1 rfl rfl ?_
 exact ⟨rfl, L1_3⟩
end Go.Proofs.YtocheaahlpiajaaGreatDoor

namespace Go.Proofs.YtocheaahlpiajaaGreatDoor
open Tryz
open Go Go.Sx Go.Hsp Go.Num Go.Osp
set_option maxRecDepth 20000
theorem plus_ok (a b : Nat) (ha : a < 2305843009213688669) (hb : b < 2305843009213688669) (w : World) : Calls prog 228 #[.int .u64 ((a : Nat) : Int), .int .u64 ((b : Nat) : Int)] w fun e w' => e = .returned (.int .u64 (((a + b) % q : Nat) : Int)) /\ Le w w' := by
 refine enter func228 rfl rfl ?_
 have L0 := Le.refl w
 refine WC.sr (W.run 1 rfl (W.nx (WC.sr (W.run 2 rfl ?_))))
 refine W.a (.addN (a) (b) (a + b) rfl rfl rfl rfl (Nat.mod_eq_of_lt (by omega))) ?_
 refine W.a (.remN (a + b) (2305843009213688669) ((a + b) % 2305843009213688669) rfl rfl rfl rfl (by decide) (rfl)) ?_
 refine W.run 1 rfl (W.nx (WC.ret ?_))
 refine E.ret1 rfl rfl ?_
 exact ⟨rfl, L0⟩

theorem fadd_ok (a b : Nat) (w : World) : Calls prog 148 #[.int .u64 ((a : Nat) : Int), .int .u64 ((b : Nat) : Int)] w fun e w' => e = .returned (.int .u64 ((addS a b : Nat) : Int)) /\ Le w w' := by
 refine enter func148 rfl rfl ?_
 have L0 := Le.refl w
 refine WC.sr (W.run 1 rfl (W.nx (WC.sr (W.run 1 rfl ?_))))
 refine W.cl go227 rfl rfl (of_ok a w) ?_
 rintro _ w1_1 ⟨rfl, h1_1⟩
 have L1_1 := L0.trans h1_1
 refine W.run 1 rfl ?_
 refine W.cl go227 rfl rfl (of_ok b w1_1) ?_
 rintro _ w1_3 ⟨rfl, h1_3⟩
 have L1_3 := L1_1.trans h1_3
 refine W.cl go228 rfl rfl (plus_ok (a % q) (b % q) (Nat.mod_lt _ (by decide)) (Nat.mod_lt _ (by decide)) w1_3) ?_
 rintro _ w1_4 ⟨rfl, h1_4⟩
 have L1_4 := L1_3.trans h1_4
 refine W.run 1 rfl (W.nx (WC.ret ?_))
 refine E.ret1 rfl rfl ?_
 exact ⟨rfl, L1_4⟩
end Go.Proofs.YtocheaahlpiajaaGreatDoor

namespace Go.Proofs.YtocheaahlpiajaaGreatDoor
open Tryz
open Go Go.Sx Go.Hsp Go.Num Go.Osp
set_option maxRecDepth 20000
theorem getp (ks : List Nat) {k : Nat} (h : k < ks.length) : (ks.map pv)[k]? = some (pv (ks.getD k 0)) := by simp [h, List.getD]
theorem getn (ks : List Nat) {k : Nat} (h : k < ks.length) : ks[k]? = some (ks.getD k 0) := by simp [h, List.getD]
theorem pright_T (a : Nat) (ha : a < 18446744073709551616) (h : right a = true) (w : World) : Calls prog 75 #[.int .u64 ((a : Nat) : Int)] w fun e w' => e = .returned (.bool true) /\ Le w w' := by
  have := pright_ok a ha w
  rwa [h] at this

end Go.Proofs.YtocheaahlpiajaaGreatDoor

namespace Go.Proofs.YtocheaahlpiajaaGreatDoor
open Tryz
open Go Go.Sx Go.Hsp Go.Num Go.Osp Go.Gsp
set_option maxRecDepth 20000
def polV (p : Pol) : List Value := [.int .i64 p.b, .int .i64 p.p, .int .i64 p.d, .int .i64 p.l, .int .i64 p.m]
def edgeV (e : Gsp.Edge) : List Value := [.int .i64 e.f, .int .i64 e.t, .int .i64 e.c, .int .i64 e.r, .int .i64 e.pol.b, .int .i64 e.pol.p, .int .i64 e.pol.d, .int .i64 e.pol.l, .int .i64 e.pol.m]
theorem edgeV_row : RowF edgeV 9 := ⟨fun _ => rfl, fun x v hv => by simp [edgeV] at hv; rcases hv with rfl | rfl | rfl | rfl | rfl | rfl | rfl | rfl | rfl <;> rfl, by decide⟩
theorem partC_nat (an nn : Nat) : partC an nn = if an <= 1125899906842624 /\ an * nn / 1000000 <= 1125899906842624 then (((an * nn / 1000000 : Nat) : Int), true) else (0, false) := by
  have e : (an : Int) * (nn : Int) / 1000000 = ((an * nn / 1000000 : Nat) : Int) := by rw [Int.natCast_ediv, Int.natCast_mul]; rfl
  unfold partC
  rw [e]
  by_cases h : an <= 1125899906842624 /\ an * nn / 1000000 <= 1125899906842624
  · rw [if_pos h, if_pos (by simp [coinB, inB]; omega)]
  · rw [if_neg h, if_neg (by simp [coinB, inB]; omega)]
def orL : List Int -> Int
  | [] => 0
  | x :: l => if x ≠ 0 then x else orL l
theorem orL_skip : ∀ (l : List Int) (k : Nat), (∀ j, j < k -> l.getD j 0 = 0) -> orL l = orL (l.drop k)
  | _, 0, _ => rfl
  | [], k + 1, _ => by simp
  | x :: l, k + 1, h => by
    have h0 : x = 0 := h 0 (by omega)
    rw [orL, if_neg (by simp [h0]), List.drop_succ_cons]
    exact orL_skip l k (fun j hj => h (j + 1) (by omega))
theorem gin_ok (n lo hi : Int) (w : World) : Calls prog 102 #[.int .i64 (n), .int .i64 (lo), .int .i64 (hi)] w fun r w' => r = .returned (.bool (inB n lo hi)) /\ Le w w' := by
 refine enter func102 rfl rfl ?_
 have L0 := Le.refl w
 refine WC.sr (W.run 1 rfl (W.nx (WC.sr (W.run 3 rfl ?_))))
 by_cases q1_3 : lo <= n
 ·refine W.dt q1_3 rfl rfl (W.run 5 rfl (W.nx (WC.ret ?_)))
  refine E.retG1 rfl rfl ?_
  exact ⟨rB (by simp [inB, q1_3]), L0⟩
 refine W.df q1_3 rfl rfl (W.run 5 rfl (W.nx (WC.ret ?_)))
 refine E.retG1 rfl rfl ?_
 exact ⟨rB (by simp [inB, q1_3]), L0⟩

theorem hin_ok (n lo hi : Int) (w : World) : Calls prog 144 #[.int .i64 (n), .int .i64 (lo), .int .i64 (hi)] w fun r w' => r = .returned (.bool (inB n lo hi)) /\ Le w w' := by
 refine enter func144 rfl rfl ?_
 have L0 := Le.refl w
 refine WC.sr (W.run 1 rfl (W.nx (WC.sr (W.run 3 rfl ?_))))
 by_cases q1_3 : lo <= n
 ·refine W.dt q1_3 rfl rfl (W.run 5 rfl (W.nx (WC.ret ?_)))
  refine E.retG1 rfl rfl ?_
  exact ⟨rB (by simp [inB, q1_3]), L0⟩
 refine W.df q1_3 rfl rfl (W.run 5 rfl (W.nx (WC.ret ?_)))
 refine E.retG1 rfl rfl ?_
 exact ⟨rB (by simp [inB, q1_3]), L0⟩

theorem coins_ok (a : Int) (w : World) : Calls prog 207 #[.int .i64 (a)] w fun r w' => r = .returned (.bool (coinB a)) /\ Le w w' := by
 refine enter func207 rfl rfl ?_
 have L0 := Le.refl w
 refine WC.sr (W.run 1 rfl (W.nx (WC.sr (W.run 2 rfl ?_))))
 by_cases q1_2 : 0 <= a
 ·refine W.dt q1_2 rfl rfl (W.run 4 rfl (W.nx (WC.ret ?_)))
  refine E.retG1 rfl rfl ?_
  exact ⟨rB (by simp [coinB, inB, q1_2]), L0⟩
 refine W.df q1_2 rfl rfl (W.run 4 rfl (W.nx (WC.ret ?_)))
 refine E.retG1 rfl rfl ?_
 exact ⟨rB (by simp [coinB, inB, q1_2]), L0⟩

theorem nadd_ok (a b : Int) (w : World) : Calls prog 104 #[.int .i64 (a), .int .i64 (b)] w fun r w' => r = .returned (.tuple #[.int .i64 (addC a b).1, .bool (addC a b).2]) /\ Le w w' := by
 refine enter func104 rfl rfl ?_
 have L0 := Le.refl w
 refine WC.sr (W.run 2 rfl (W.nx (WC.seq (WC.sr (W.run 1 rfl ?_)))))
 refine W.cl go207 rfl rfl (coins_ok a w) ?_
 rintro _ w1_1 ⟨rfl, h1_1⟩
 have L1 := L0.trans h1_1
 refine W.run 1 rfl ?_
 by_cases q1_3 : (coinB a) = true
 ·refine W.a (.dec (.move rfl) (congrArg not (q1_3))) ?_
  refine W.run 1 rfl ?_
  refine W.efg rfl rfl rfl (rfl) rfl rfl ?_
  refine Ef.call go207 rfl rfl (coins_ok b w1_1) ?_
  rintro _ w1_5 ⟨rfl, h1_5⟩
  refine ⟨_, rfl, ?_⟩
  have L2 := L1.trans h1_5
  refine W.run 2 rfl ?_
  by_cases q1_8 : (coinB b) = true
  ·refine W.a (.dec (.move rfl) (congrArg not (q1_8))) ?_
   refine W.run 2 rfl ?_
   have hb1 := inB_T (show inB b 0 1125899906842624 = true by assumption)
   refine W.g (Any.rd (.sub rfl rfl (by omega)) _) ?_
   refine W.run 2 rfl (W.nx ?_)
   by_cases c0 : (1125899906842624 - b) < a
   ·refine WC.condY rfl (decide_eq_true c0) ?_
    refine WC.sr (W.run 2 rfl (W.nx (WC.ret (E.thenR ?_))))
    refine E.retG2 rfl rfl rfl ?_
    exact ⟨(by first | rfl | (simp [addC, q1_3, q1_8, c0]; done) | (simp [addC, q1_3, q1_8, c0]; omega) | (simp [addC, q1_3, q1_8, c0]; split <;> first | (exfalso; omega) | (simp; done) | (simp; omega))), L2⟩
   refine WC.condN rfl (decide_eq_false c0) ?_
   refine WC.sn (WC.sr (W.run 2 rfl ?_))
   refine W.a (.add rfl rfl (by have := inB_T (show inB a 0 1125899906842624 = true by assumption); have := inB_T (show inB b 0 1125899906842624 = true by assumption); omega)) ?_
   refine W.run 2 rfl (W.nx (WC.ret ?_))
   refine E.retG2 rfl rfl rfl ?_
   exact ⟨(by first | rfl | (simp [addC, q1_3, q1_8, c0]; done) | (simp [addC, q1_3, q1_8, c0]; omega) | (simp [addC, q1_3, q1_8, c0]; split <;> first | (exfalso; omega) | (simp; done) | (simp; omega))), L2⟩
  refine W.a (.dec (.move rfl) (congrArg not ((Bool.eq_false_iff.2 q1_8)))) ?_
  refine W.run 5 rfl (W.nx (WC.condT rfl (WC.sr (W.run 2 rfl (W.nx (WC.ret (E.thenR ?_)))))))
  refine E.retG2 rfl rfl rfl ?_
  exact ⟨(by first | rfl | (simp [addC, q1_3, q1_8]; done) | (simp [addC, q1_3, q1_8]; omega) | (simp [addC, q1_3, q1_8]; split <;> first | (exfalso; omega) | (simp; done) | (simp; omega))), L2⟩
 refine W.a (.dec (.move rfl) (congrArg not ((Bool.eq_false_iff.2 q1_3)))) ?_
 refine W.run 10 rfl (W.nx (WC.condT rfl (WC.sr (W.run 2 rfl (W.nx (WC.ret (E.thenR ?_)))))))
 refine E.retG2 rfl rfl rfl ?_
 exact ⟨(by first | rfl | (simp [addC, q1_3]; done) | (simp [addC, q1_3]; omega) | (simp [addC, q1_3]; split <;> first | (exfalso; omega) | (simp; done) | (simp; omega))), L1⟩

theorem npart0_ok (a num : Int) (hn : num <= 9223372036854775807) (w : World) : Calls prog 273 #[.int .i64 (a), .int .i64 (num), .int .i64 (1000000)] w fun r w' => ∃ b : Bool, r = .returned (.tuple #[.int .i64 (partC a num).1, .bool b, .bool (partC a num).2]) /\ Le w w' := by
 refine enter func273 rfl rfl ?_
 have L0 := Le.refl w
 refine WC.sr (W.run 3 rfl (W.nx (WC.seq (WC.sr (W.run 1 rfl ?_)))))
 refine W.cl go207 rfl rfl (coins_ok a w) ?_
 rintro _ w1_1 ⟨rfl, h1_1⟩
 have L1 := L0.trans h1_1
 refine W.run 1 rfl ?_
 by_cases q1_3 : (coinB a) = true
 ·refine W.a (.dec (.move rfl) (congrArg not (q1_3))) ?_
  refine W.run 3 rfl ?_
  by_cases q1_7 : num < 0
  ·refine W.dt q1_7 rfl rfl (W.run 3 rfl (W.nx (WC.condT rfl (WC.sr (W.run 3 rfl (W.nx (WC.ret (E.thenR ?_))))))))
   refine E.retG3 rfl rfl rfl rfl ?_
   exact ⟨false, (by first | rfl | (simp [partC, q1_3, q1_7]; done) | (simp [partC, q1_3, q1_7]; omega) | (simp [partC, q1_3, q1_7]; split <;> first | (exfalso; omega) | (simp; done) | (simp; omega))), L1⟩
  refine W.df q1_7 rfl rfl (W.run 1 rfl ?_)
  refine W.g (Any.rd (.dec (.lss rfl rfl) (show _ = false from by first | decide | rfl)) _) ?_
  refine W.run 1 rfl (W.nx (WC.condF rfl (WC.sn (WC.sr (W.run 1 rfl ?_)))))
  have ha := inB_T (show inB a 0 1125899906842624 = true by assumption)
  obtain ⟨an, rfl⟩ := Int.eq_ofNat_of_zero_le ha.1
  obtain ⟨nn, rfl⟩ := Int.eq_ofNat_of_zero_le (show 0 <= num by omega)
  refine W.r (.idI (isS underlying3) underlying27 rfl (IntWalk.u64_in _ (by omega))) ?_
  refine W.run 1 rfl ?_
  refine W.r (.idI (isS underlying3) underlying27 rfl (IntWalk.u64_in _ (by omega))) ?_
  refine W.cl go302 rfl rfl (mul64_ok an nn (by omega) (by omega) w1_1) ?_
  rintro _ w3_4 ⟨rfl, h3_4⟩
  have L2 := L1.trans h3_4
  have hdm : an * nn / 18446744073709551616 * 18446744073709551616 + an * nn % 18446744073709551616 = an * nn := by rw [Nat.mul_comm]; exact Nat.div_add_mod _ _
  have hlo := Nat.mod_lt (an * nn) (show 0 < 18446744073709551616 by decide)
  generalize hH : an * nn / 18446744073709551616 = H at *
  generalize hLo : an * nn % 18446744073709551616 = Lo at *
  refine W.run 5 rfl (W.nx (WC.seq (WC.sr (W.run 2 rfl ?_))))
  refine W.r (.idI (isS underlying3) underlying27 rfl (IntWalk.u64_in _ (by omega))) ?_
  refine W.run 1 rfl (W.nx ?_)
  by_cases c1 : 1000000 <= ((H : Nat) : Int)
  ·refine WC.condY rfl (decide_eq_true c1) ?_
   refine WC.sr (W.run 3 rfl (W.nx (WC.ret (E.thenR ?_))))
   refine E.retG3 rfl rfl rfl rfl ?_
   exact ⟨false, by rw [partC_nat]; first | (rw [if_neg (by omega)]; done) | (rw [if_pos (by omega), hQ]), L2⟩
  refine WC.condN rfl (decide_eq_false c1) ?_
  refine WC.sn (WC.sr (W.run 3 rfl ?_))
  refine W.r (.idI (isS underlying3) underlying27 rfl (IntWalk.u64_in _ (by omega))) ?_
  refine W.cl go301 rfl rfl (div64_q44 H Lo 1000000 (by decide) (by decide) (by omega) hlo w3_4) ?_
  rintro _ w6_4 ⟨rfl, h6_4⟩
  have L3 := L2.trans h6_4
  rw [hdm]
  generalize hQ : an * nn / 1000000 = Qn at *
  generalize hRm : an * nn % 1000000 = Rm at *
  refine W.run 5 rfl (W.nx (WC.seq (WC.sr (W.run 2 rfl (W.nx ?_)))))
  by_cases c2 : 1125899906842624 < ((Qn : Nat) : Int)
  ·refine WC.condY rfl (decide_eq_true c2) ?_
   refine WC.sr (W.run 3 rfl (W.nx (WC.ret (E.thenR ?_))))
   refine E.retG3 rfl rfl rfl rfl ?_
   exact ⟨false, by rw [partC_nat]; first | (rw [if_neg (by omega)]; done) | (rw [if_pos (by omega), hQ]), L3⟩
  refine WC.condN rfl (decide_eq_false c2) ?_
  refine WC.sn (WC.sr (W.run 1 rfl ?_))
  refine W.r (.idI (isS underlying27) underlying3 rfl (IntWalk.i64_in _ (by omega))) ?_
  refine W.run 5 rfl (W.nx (WC.ret ?_))
  refine E.retG3 rfl rfl rfl rfl ?_
  exact ⟨decide (0 < ((Rm : Nat) : Int)), by rw [partC_nat]; first | (rw [if_neg (by omega)]; done) | (rw [if_pos (by omega), hQ]), L3⟩
 refine W.a (.dec (.move rfl) (congrArg not ((Bool.eq_false_iff.2 q1_3)))) ?_
 refine W.run 7 rfl (W.nx (WC.condT rfl (WC.sr (W.run 3 rfl (W.nx (WC.ret (E.thenR ?_)))))))
 refine E.retG3 rfl rfl rfl rfl ?_
 exact ⟨false, by simp [partC, q1_3], L1⟩

theorem npart_ok (a num : Int) (hn : num <= 9223372036854775807) (w : World) : Calls prog 205 #[.int .i64 (a), .int .i64 (num), .int .i64 (1000000)] w fun r w' => r = .returned (.tuple #[.int .i64 (partC a num).1, .bool (partC a num).2]) /\ Le w w' := by
 refine enter func205 rfl rfl ?_
 have L0 := Le.refl w
 refine WC.sr (W.run 2 rfl (W.nx (WC.sr (W.run 3 rfl ?_))))
 refine W.cl go273 rfl rfl (npart0_ok a num hn w) ?_
 rintro _ w1_3 ⟨bb, rfl, h1_3⟩
 have L1 := L0.trans h1_3
 refine W.run 7 rfl (W.nx (WC.sr (W.run 4 rfl (W.nx (WC.ret ?_)))))
 refine E.retG2 rfl rfl rfl ?_
 exact ⟨rfl, L1⟩

theorem hright_ok (p : Pol) (w : World) : Calls prog 206 #[.agg (polV p).toArray] w fun r w' => r = .returned (.bool (polOk p)) /\ Le w w' := by
 refine enter func206 rfl rfl ?_
 have L0 := Le.refl w
 refine WC.sr (W.ef rfl rfl rfl ?_)
 refine Ef.boxA rfl ?_
 intro g0_0 w0_0 hg0_0 b0_0 h0_0
 have L1 := L0.trans h0_0
 have b0_0 : Blk w0_0 g0_0 79 (polV p).toArray := b0_0
 refine W.run 1 rfl (W.nx (WC.sr ?_))
 refine W.a (.field0 fa79_0 rfl) ?_
 refine W.r (.loadB (v := .int .i64 (p.b)) na3 rfl b0_0 rfl) ?_
 refine W.cl go144 rfl rfl (hin_ok p.b 0 1125899906842624 w0_0) ?_
 rintro _ w1_2 ⟨rfl, h1_2⟩
 have L2 := L1.trans h1_2
 by_cases q1_3 : (inB p.b 0 1125899906842624) = true
 ·refine W.a (.dec (.move rfl) (q1_3)) ?_
  refine W.g (Any.rd (.field0 fa79_3 rfl) _) ?_
  have f3 := (b0_0.le h1_2)
  refine W.g (.loadB (v := .int .i64 (p.l)) na3 rfl f3 rfl) ?_
  refine W.g (Any.rd (.field0 fa79_4 rfl) _) ?_
  refine W.g (.loadB (v := .int .i64 (p.m)) na3 rfl f3 rfl) ?_
  refine W.efg rfl rfl rfl (rfl) rfl rfl ?_
  refine Ef.call go144 rfl rfl (hin_ok p.l 0 p.m w1_2) ?_
  rintro _ w1_8 ⟨rfl, h1_8⟩
  refine ⟨_, rfl, ?_⟩
  have L4 := L2.trans h1_8
  refine W.run 1 rfl ?_
  by_cases q1_10 : (inB p.l 0 p.m) = true
  ·refine W.a (.dec (.move rfl) (q1_10)) ?_
   refine W.g (Any.rd (.field0 fa79_4 rfl) _) ?_
   have f5 := (f3.le h1_8)
   refine W.g (.loadB (v := .int .i64 (p.m)) na3 rfl f5 rfl) ?_
   refine W.efg rfl rfl rfl (rfl) rfl rfl ?_
   refine Ef.call go144 rfl rfl (hin_ok p.m 0 1125899906842624 w1_8) ?_
   rintro _ w1_13 ⟨rfl, h1_13⟩
   refine ⟨_, rfl, ?_⟩
   have L6 := L4.trans h1_13
   refine W.run 1 rfl ?_
   by_cases q1_15 : (inB p.m 0 1125899906842624) = true
   ·refine W.a (.dec (.move rfl) (q1_15)) ?_
    refine W.g (Any.rd (.field0 fa79_1 rfl) _) ?_
    have f7 := (f5.le h1_13)
    refine W.g (.loadB (v := .int .i64 (p.p)) na3 rfl f7 rfl) ?_
    refine W.efg rfl rfl rfl (rfl) rfl rfl ?_
    refine Ef.call go144 rfl rfl (hin_ok p.p 0 1000000 w1_13) ?_
    rintro _ w1_18 ⟨rfl, h1_18⟩
    refine ⟨_, rfl, ?_⟩
    have L8 := L6.trans h1_18
    refine W.run 1 rfl ?_
    by_cases q1_20 : (inB p.p 0 1000000) = true
    ·refine W.a (.dec (.move rfl) (q1_20)) ?_
     refine W.g (Any.rd (.field0 fa79_2 rfl) _) ?_
     have f9 := (f7.le h1_18)
     refine W.g (.loadB (v := .int .i64 (p.d)) na3 rfl f9 rfl) ?_
     refine W.efg rfl rfl rfl (rfl) rfl rfl ?_
     refine Ef.call go144 rfl rfl (hin_ok p.d 0 1048576 w1_18) ?_
     rintro _ w1_23 ⟨rfl, h1_23⟩
     refine ⟨_, rfl, ?_⟩
     have L10 := L8.trans h1_23
     refine W.run 2 rfl (W.nx (WC.ret ?_))
     refine E.retG1 rfl rfl ?_
     exact ⟨rB (by simp [polOk, q1_3, q1_10, q1_15, q1_20]), L10⟩
    refine W.a (.dec (.move rfl) ((Bool.eq_false_iff.2 q1_20))) ?_
    refine W.run 5 rfl (W.nx (WC.ret ?_))
    refine E.retG1 rfl rfl ?_
    exact ⟨rB (by simp [polOk, q1_3, q1_10, q1_15, q1_20]), L8⟩
   refine W.a (.dec (.move rfl) ((Bool.eq_false_iff.2 q1_15))) ?_
   refine W.run 10 rfl (W.nx (WC.ret ?_))
   refine E.retG1 rfl rfl ?_
   exact ⟨rB (by simp [polOk, q1_3, q1_10, q1_15]), L6⟩
  refine W.a (.dec (.move rfl) ((Bool.eq_false_iff.2 q1_10))) ?_
  refine W.run 15 rfl (W.nx (WC.ret ?_))
  refine E.retG1 rfl rfl ?_
  exact ⟨rB (by simp [polOk, q1_3, q1_10]), L4⟩
 refine W.a (.dec (.move rfl) ((Bool.eq_false_iff.2 q1_3))) ?_
 refine W.run 22 rfl (W.nx (WC.ret ?_))
 refine E.retG1 rfl rfl ?_
 exact ⟨rB (by simp [polOk, q1_3]), L2⟩

theorem hfee_ok (p : Pol) (a : Int) (hp : PolI p) (w : World) : Calls prog 103 #[.agg (polV p).toArray, .int .i64 (a)] w fun r w' => r = .returned (.tuple #[.int .i64 (feeG p a).1, .bool (feeG p a).2]) /\ Le w w' := by
 have hp2 := hp.2.1
 refine enter func103 rfl rfl ?_
 have L0 := Le.refl w
 refine WC.sr (W.ef rfl rfl rfl ?_)
 refine Ef.boxA rfl ?_
 intro g0_0 w0_0 hg0_0 b0_0 h0_0
 have L1 := L0.trans h0_0
 have b0_0 : Blk w0_0 g0_0 79 (polV p).toArray := b0_0
 refine W.run 2 rfl (W.nx (WC.sr (W.run 1 rfl ?_)))
 refine W.a (.field0 fa79_1 rfl) ?_
 refine W.r (.loadB (v := .int .i64 (p.p)) na3 rfl b0_0 rfl) ?_
 refine W.cl go205 rfl rfl (npart_ok a p.p (by omega) w0_0) ?_
 rintro _ w1_3 ⟨rfl, h1_3⟩
 have L2 := L1.trans h1_3
 refine W.run 5 rfl (W.nx (WC.seq (WC.sr (W.run 2 rfl ?_))))
 by_cases q2_2 : ((partC a p.p).2) = true
 ·refine W.a (.dec (.move rfl) (congrArg not (q2_2))) ?_
  have f3 := (b0_0.le h1_3)
  refine W.g (.loadAll ag79 (by rfl) rfl f3) ?_
  refine W.efg rfl rfl rfl (rfl) rfl rfl ?_
  refine Ef.call go206 rfl rfl (hright_ok p w1_3) ?_
  rintro _ w2_4 ⟨rfl, h2_4⟩
  refine ⟨_, rfl, ?_⟩
  have L4 := L2.trans h2_4
  refine W.run 2 rfl (W.nx ?_)
  by_cases c0 : (polOk p) = true
  ·refine WC.condN rfl (congrArg not (c0)) ?_
   refine WC.sn (WC.sr ?_)
   refine W.a (.field0 fa79_0 rfl) ?_
   have f5 := (f3.le h2_4)
   refine W.r (.loadB (v := .int .i64 (p.b)) na3 rfl f5 rfl) ?_
   refine W.run 1 rfl ?_
   refine W.cl go104 rfl rfl (nadd_ok p.b ((partC a p.p).1) w2_4) ?_
   rintro _ w4_3 ⟨rfl, h4_3⟩
   have L6 := L4.trans h4_3
   refine W.run 4 rfl (W.nx (WC.ret ?_))
   refine E.retG2 rfl rfl rfl ?_
   exact ⟨(by first | rfl | (simp [feeG, q2_2, c0]; done) | (simp [feeG, q2_2, c0]; omega) | (simp [feeG, q2_2, c0]; split <;> first | (exfalso; omega) | (simp; done) | (simp; omega))), L6⟩
  refine WC.condY rfl (congrArg not ((Bool.eq_false_iff.2 c0))) ?_
  refine WC.sr (W.run 2 rfl (W.nx (WC.ret (E.thenR ?_))))
  refine E.retG2 rfl rfl rfl ?_
  exact ⟨(by first | rfl | (simp [feeG, q2_2, c0]; done) | (simp [feeG, q2_2, c0]; omega) | (simp [feeG, q2_2, c0]; split <;> first | (exfalso; omega) | (simp; done) | (simp; omega))), L4⟩
 refine W.a (.dec (.move rfl) (congrArg not ((Bool.eq_false_iff.2 q2_2)))) ?_
 refine W.run 4 rfl (W.nx (WC.condT rfl (WC.sr (W.run 2 rfl (W.nx (WC.ret (E.thenR ?_)))))))
 refine E.retG2 rfl rfl rfl ?_
 exact ⟨(by first | rfl | (simp [feeG, q2_2]; done) | (simp [feeG, q2_2]; omega) | (simp [feeG, q2_2]; split <;> first | (exfalso; omega) | (simp; done) | (simp; omega))), L2⟩

theorem edge_ok (e : Gsp.Edge) (w : World) : Calls prog 160 #[.agg (edgeV e).toArray] w fun r w' => r = .returned (.bool (edgeOk e)) /\ Le w w' := by
 refine enter func160 rfl rfl ?_
 have L0 := Le.refl w
 refine WC.sr (W.ef rfl rfl rfl ?_)
 refine Ef.boxA rfl ?_
 intro g0_0 w0_0 hg0_0 b0_0 h0_0
 have L1 := L0.trans h0_0
 have b0_0 : Blk w0_0 g0_0 81 (edgeV e).toArray := b0_0
 refine W.run 1 rfl (W.nx (WC.sr ?_))
 refine W.a (.field0 fa81_0 rfl) ?_
 refine W.r (.loadB (v := .int .i64 (e.f)) na3 rfl b0_0 rfl) ?_
 refine W.cl go102 rfl rfl (gin_ok e.f 0 11 w0_0) ?_
 rintro _ w1_2 ⟨rfl, h1_2⟩
 have L2 := L1.trans h1_2
 by_cases q1_3 : (inB e.f 0 11) = true
 ·refine W.a (.dec (.move rfl) (q1_3)) ?_
  refine W.g (Any.rd (.field0 fa81_1 rfl) _) ?_
  have f3 := (b0_0.le h1_2)
  refine W.g (.loadB (v := .int .i64 (e.t)) na3 rfl f3 rfl) ?_
  refine W.efg rfl rfl rfl (rfl) rfl rfl ?_
  refine Ef.call go102 rfl rfl (gin_ok e.t 0 11 w1_2) ?_
  rintro _ w1_6 ⟨rfl, h1_6⟩
  refine ⟨_, rfl, ?_⟩
  have L4 := L2.trans h1_6
  refine W.run 1 rfl ?_
  by_cases q1_8 : (inB e.t 0 11) = true
  ·refine W.a (.dec (.move rfl) (q1_8)) ?_
   refine W.g (Any.rd (.field0 fa81_0 rfl) _) ?_
   have f5 := (f3.le h1_6)
   refine W.g (.loadB (v := .int .i64 (e.f)) na3 rfl f5 rfl) ?_
   refine W.g (Any.rd (.field0 fa81_1 rfl) _) ?_
   refine W.g (.loadB (v := .int .i64 (e.t)) na3 rfl f5 rfl) ?_
   refine W.run 2 rfl ?_
   by_cases q1_15 : e.f ≠ e.t
   ·refine W.dt q1_15 rfl rfl ?_
    refine W.g (Any.rd (.field0 fa81_2 rfl) _) ?_
    refine W.g (.loadB (v := .int .i64 (e.c)) na3 rfl f5 rfl) ?_
    refine W.efg rfl rfl rfl (rfl) rfl rfl ?_
    refine Ef.call go102 rfl rfl (gin_ok e.c 0 39 w1_6) ?_
    rintro _ w1_18 ⟨rfl, h1_18⟩
    refine ⟨_, rfl, ?_⟩
    have L6 := L4.trans h1_18
    refine W.run 1 rfl ?_
    by_cases q1_20 : (inB e.c 0 39) = true
    ·refine W.a (.dec (.move rfl) (q1_20)) ?_
     refine W.g (Any.rd (.field0 fa81_3 rfl) _) ?_
     have f7 := (f5.le h1_18)
     refine W.g (.loadB (v := .int .i64 (e.r)) na3 rfl f7 rfl) ?_
     refine W.efg rfl rfl rfl (rfl) rfl rfl ?_
     refine Ef.call go102 rfl rfl (gin_ok e.r 1 1125899906842624 w1_18) ?_
     rintro _ w1_23 ⟨rfl, h1_23⟩
     refine ⟨_, rfl, ?_⟩
     have L8 := L6.trans h1_23
     refine W.run 1 rfl ?_
     by_cases q1_25 : (inB e.r 1 1125899906842624) = true
     ·refine W.a (.dec (.move rfl) (q1_25)) ?_
      refine W.g (Any.rd (.field0 fa81_4 rfl) _) ?_
      have f9 := (f7.le h1_23)
      refine W.g (.bpart (polV e.pol) ag79 rfl (by decide) rfl f9 rfl) ?_
      refine W.efg rfl rfl rfl (rfl) rfl rfl ?_
      refine Ef.call go206 rfl rfl (hright_ok e.pol w1_23) ?_
      rintro _ w1_28 ⟨rfl, h1_28⟩
      refine ⟨_, rfl, ?_⟩
      have L10 := L8.trans h1_28
      refine W.run 2 rfl (W.nx (WC.ret ?_))
      refine E.retG1 rfl rfl ?_
      exact ⟨rB (by simp [edgeOk, q1_3, q1_8, q1_15, q1_20, q1_25]), L10⟩
     refine W.a (.dec (.move rfl) ((Bool.eq_false_iff.2 q1_25))) ?_
     refine W.run 5 rfl (W.nx (WC.ret ?_))
     refine E.retG1 rfl rfl ?_
     exact ⟨rB (by simp [edgeOk, q1_3, q1_8, q1_15, q1_20, q1_25]), L8⟩
    refine W.a (.dec (.move rfl) ((Bool.eq_false_iff.2 q1_20))) ?_
    refine W.run 10 rfl (W.nx (WC.ret ?_))
    refine E.retG1 rfl rfl ?_
    exact ⟨rB (by simp [edgeOk, q1_3, q1_8, q1_15, q1_20]), L6⟩
   refine W.df q1_15 rfl rfl (W.run 15 rfl (W.nx (WC.ret ?_)))
   refine E.retG1 rfl rfl ?_
   exact ⟨rB (by simp [edgeOk, q1_3, q1_8, q1_15]), L4⟩
  refine W.a (.dec (.move rfl) ((Bool.eq_false_iff.2 q1_8))) ?_
  refine W.run 22 rfl (W.nx (WC.ret ?_))
  refine E.retG1 rfl rfl ?_
  exact ⟨rB (by simp [edgeOk, q1_3, q1_8]), L4⟩
 refine W.a (.dec (.move rfl) ((Bool.eq_false_iff.2 q1_3))) ?_
 refine W.run 27 rfl (W.nx (WC.ret ?_))
 refine E.retG1 rfl rfl ?_
 exact ⟨rB (by simp [edgeOk, q1_3]), L2⟩

theorem isNaN_ok (a : Int) (w : World) : Calls prog 278 #[.int .i64 (a)] w fun r w' => r = .returned (.bool false) /\ Le w w' := by
 refine enter func278 rfl rfl ?_
 have L0 := Le.refl w
 refine WC.sr (W.run 1 rfl (W.nx (WC.sr (W.run 4 rfl (W.nx (WC.ret ?_))))))
 refine E.retG1 rfl rfl ?_
 exact ⟨by simp, L0⟩

theorem compare_ok (a b : Int) (w : World) : Calls prog 212 #[.int .i64 (a), .int .i64 (b)] w fun r w' => r = .returned (.int .i64 (cmpI a b)) /\ Le w w' := by
 refine enter func212 rfl rfl ?_
 have L0 := Le.refl w
 refine WC.sr (W.run 1 rfl (W.nx (WC.sr (W.run 1 rfl ?_))))
 refine W.cl go278 rfl rfl (isNaN_ok a w) ?_
 rintro _ w1_1 ⟨rfl, h1_1⟩
 have L1 := L0.trans h1_1
 refine W.run 1 rfl (W.nx (WC.sr (W.run 1 rfl ?_)))
 refine W.cl go278 rfl rfl (isNaN_ok b w1_1) ?_
 rintro _ w2_1 ⟨rfl, h2_1⟩
 have L2 := L1.trans h2_1
 refine W.run 1 rfl (W.nx (WC.seq (WC.sr (W.run 1 rfl (W.nx (WC.condF rfl (WC.sn (WC.seq (WC.sr (W.run 1 rfl (W.nx (WC.condF rfl (WC.sn (WC.seq (WC.sr (W.run 3 rfl (W.nx ?_)))))))))))))))))
 by_cases c3 : a < b
 ·refine WC.condY rfl (decide_eq_true c3) ?_
  refine WC.sr (W.run 1 rfl (W.nx (WC.ret (E.thenR ?_))))
  refine E.retG1 rfl rfl ?_
  exact ⟨(by first | rfl | (simp [cmpI, c3]; done) | (simp [cmpI, c3]; omega) | (simp [cmpI, c3]; split <;> first | (exfalso; omega) | (simp; done) | (simp; omega))), L2⟩
 refine WC.condN rfl (decide_eq_false c3) ?_
 refine WC.sn (WC.seq (WC.sr (W.run 3 rfl (W.nx ?_))))
 by_cases c4 : b < a
 ·refine WC.condY rfl (decide_eq_true c4) ?_
  refine WC.sr (W.run 1 rfl (W.nx (WC.ret (E.thenR ?_))))
  refine E.retG1 rfl rfl ?_
  exact ⟨(by first | rfl | (simp [cmpI, c3, c4]; done) | (simp [cmpI, c3, c4]; omega) | (simp [cmpI, c3, c4]; split <;> first | (exfalso; omega) | (simp; done) | (simp; omega))), L2⟩
 refine WC.condN rfl (decide_eq_false c4) ?_
 refine WC.sn (WC.sr (W.run 1 rfl (W.nx (WC.ret ?_))))
 refine E.retG1 rfl rfl ?_
 exact ⟨(by first | rfl | (simp [cmpI, c3, c4]; done) | (simp [cmpI, c3, c4]; omega) | (simp [cmpI, c3, c4]; split <;> first | (exfalso; omega) | (simp; done) | (simp; omega))), L2⟩

theorem or2_ok {A : Option Addr} {n c : Nat} {xs : List Int} (w : World) (hV : Vec w iv 1 A n xs) (hn : n <= 1000000) : Calls prog 219 #[.slice A n c] w fun r w' => r = .returned (.int .i64 (orL xs)) /\ Le w w' := by
 have hl := hV.1
 refine enter func219 rfl rfl ?_
 have L0 := Le.refl w
 refine WC.sr (W.run 1 rfl (W.nx (WC.sr (W.run 1 rfl (W.nx (WC.seq (WC.sr (W.run 1 rfl ?_))))))))
 refine W.r (.len underlying23 rfl) ?_
 refine W.run 1 rfl (W.nx (WC.block ?_))
 refine WC.loop (ι := Nat) (fun k => [(3, .int .i64 (0)), (6, .slice A n c), (7, .int .i64 (((n : Nat) : Int))), (8, .int .i64 (((k : Nat) : Int)))]) (fun k wl0 => (k <= n) /\ (∀ j, j < k -> xs.getD j 0 = 0) /\ Le w wl0 /\ w.heap.size <= wl0.heap.size) (fun k => n - k) 0 ?_ ?_ ?_
 ·exact .cons rfl (.cons rfl (.cons rfl (.cons rfl (.nil _))))
 ·exact ⟨Nat.zero_le _, fun j hj => absurd hj (Nat.not_lt_zero _), L0, Nat.le_refl _⟩
 rintro k wl0 ⟨hk, hz, Ll0, zl0⟩
 refine WC.sr (W.run 1 rfl (W.nx (WC.seq ?_)))
 by_cases c0 : ((k : Nat) : Int) < ((n : Nat) : Int)
 ·refine WC.condY rfl (decide_eq_true c0) ?_
  refine WC.sn (WC.seq (WC.block (WC.sr ?_)))
  refine W.a (.idxS (k) underlying23 sz3 rfl rfl (hV.isSome iv_row (by omega)) (rfl) (by omega)) ?_
  refine W.r (.vone (v := .int .i64 ((xs.getD k 0))) na3 rfl (hV.le Ll0) iv_row (getS xs 0 (by omega)) rfl) ?_
  refine W.run 1 rfl (W.nx (WC.sr (W.run 3 rfl (W.nx ?_))))
  by_cases c1 : (xs.getD k 0) ≠ 0
  ·refine WC.condY rfl (decide_eq_true c1) ?_
   refine WC.sr (W.run 2 rfl (W.nx (WC.ret (E.blkR (E.thenR (E.thenR (E.blkR (E.thenR ?_))))))))
   refine E.retG1 rfl rfl ?_
   exact ⟨by rw [orL_skip xs k hz, List.drop_eq_getElem_cons (by omega), orL, if_pos (by simpa [List.getD, show k < xs.length by omega] using c1)]; simp [List.getD, show k < xs.length by omega], Ll0⟩
  refine WC.condN rfl (decide_eq_false c1) ?_
  refine WC.skip (E.blkN (E.thenN (WC.region ?_)))
  refine W.a (.add rfl rfl (by omega)) ?_
  refine W.run 1 rfl (W.nil ?_)
  refine E.again (k + 1) (.cons rfl (.cons rfl (.cons rfl (.cons rfl (.nil _))))) ?_ ?_
  ·exact ⟨by omega, fun j hj => by rcases Nat.lt_or_ge j k with h | h; exact hz j h; rw [show j = k by omega]; exact Decidable.not_not.1 c1, Ll0, by have := zl0; omega⟩
  first | omega | (simp only []; omega)
 refine WC.condN rfl (decide_eq_false c0) ?_
 refine WC.exit (E.thenX (E.thenX (E.blkH (E.thenN (WC.sr (W.run 2 rfl (W.nx (WC.ret ?_))))))))
 refine E.retG1 rfl rfl ?_
 exact ⟨by rw [orL_skip xs k hz, List.drop_of_length_le (by omega)]; rfl, Ll0⟩

theorem order_ok (a b : Gsp.Edge) (w : World) : Calls prog 162 #[.agg (edgeV a).toArray, .agg (edgeV b).toArray] w fun r w' => r = .returned (.int .i64 (ordE a b)) /\ Le w w' := by
 refine enter func162 rfl rfl ?_
 have L0 := Le.refl w
 refine WC.sr (W.ef rfl rfl rfl ?_)
 refine Ef.boxA rfl ?_
 intro g0_0 w0_0 hg0_0 b0_0 h0_0
 have L1 := L0.trans h0_0
 have b0_0 : Blk w0_0 g0_0 81 (edgeV a).toArray := b0_0
 refine W.ef rfl rfl rfl ?_
 refine Ef.boxA rfl ?_
 intro g0_1 w0_1 hg0_1 b0_1 h0_1
 have L2 := L1.trans h0_1
 have b0_1 : Blk w0_1 g0_1 81 (edgeV b).toArray := b0_1
 refine W.run 1 rfl (W.nx (WC.seq ?_))
 refine WC.draw [0, 1, 2, 3, 5, 6, 7, 8, 4, 9, 10, 11, 12] mixed (by kernel_rfl) ?_
 intro w1 d1
 have L3 := L2.trans d1
 refine G.a rfl (.field0 fa81_2 rfl) ?_
 have f4 := (b0_0.le (h0_1.trans d1))
 refine G.r rfl (.loadB (v := .int .i64 (a.c)) na3 rfl f4 rfl) ?_
 refine G.a rfl (.field0 fa81_2 rfl) ?_
 have f5 := (b0_1.le d1)
 refine G.r rfl (.loadB (v := .int .i64 (b.c)) na3 rfl f5 rfl) ?_
 refine G.a rfl (.field0 fa81_0 rfl) ?_
 refine G.r rfl (.loadB (v := .int .i64 (a.f)) na3 rfl f4 rfl) ?_
 refine G.a rfl (.field0 fa81_0 rfl) ?_
 refine G.r rfl (.loadB (v := .int .i64 (b.f)) na3 rfl f5 rfl) ?_
 refine G.ef rfl rfl rfl rfl rfl ?_
 refine Ef.call go212 rfl rfl (compare_ok a.c b.c w1) ?_
 rintro _ w1_4 ⟨rfl, h1_4⟩
 refine ⟨_, rfl, ?_⟩
 refine ⟨fun _ => h1_4, ?_⟩
 have L6 := L3.trans h1_4
 refine G.ef rfl rfl rfl rfl rfl ?_
 refine Ef.call go212 rfl rfl (compare_ok a.f b.f w1_4) ?_
 rintro _ w1_9 ⟨rfl, h1_9⟩
 refine ⟨_, rfl, ?_⟩
 refine ⟨fun _ => h1_9, ?_⟩
 have L7 := L6.trans h1_9
 refine G.ef rfl rfl rfl rfl rfl ?_
 refine Ef.buildSliceV (len := 2) [_, _] underlying23 el3 rfl (by simp [Value.cells]) rfl (by decide) (by decide) ?_
 intro g1_10 w1_10 hg1_10 b1_10 h1_10
 refine ⟨fun _ => h1_10, ?_⟩
 have L8 := L7.trans h1_10
 have b1_10 : Blk w1_10 g1_10 3 (([(cmpI a.c b.c), (cmpI a.f b.f)]).map iv).flatten.toArray := b1_10
 have o1_10 : OVec w1_10 w1_9.heap.size 3 iv 1 (some ⟨g1_10, 0, none⟩) 2 2 ([(cmpI a.c b.c), (cmpI a.f b.f)]) := b1_10.ovec hg1_10 iv_row rfl rfl (by decide)
 refine G.ef rfl rfl rfl rfl rfl ?_
 refine Ef.call go219 rfl rfl (or2_ok w1_10 o1_10.vec (by decide)) ?_
 rintro _ w1_11 ⟨rfl, h1_11⟩
 refine ⟨_, rfl, ?_⟩
 refine ⟨fun _ => h1_11, ?_⟩
 have L9 := L8.trans h1_11
 refine G.run 1 rfl (G.nil (E.thenN (WC.ret ?_)))
 refine E.retG1 rfl rfl ?_
 exact ⟨by simp only [orL, ordE]; split <;> first | rfl | (split <;> simp_all), L9⟩
end Go.Proofs.YtocheaahlpiajaaGreatDoor

namespace Go.Proofs.YtocheaahlpiajaaGreatDoor
open Tryz
open Go Go.Sx Go.Hsp Go.Num Go.Osp Go.Gsp
set_option maxRecDepth 20000
theorem filter_T {pr : Gsp.Edge -> Bool} (xs : List Gsp.Edge) (k : Nat) (hk : k < xs.length) (h : pr (xs.getD k noEdge) = true) : (xs.take k).filter pr ++ [xs.getD k noEdge] = (xs.take (k + 1)).filter pr := by
  rw [List.take_add_one, getS xs noEdge hk, List.filter_append]
  simp [List.filter_cons, -List.getD_eq_getElem?_getD, h]
theorem filter_F {pr : Gsp.Edge -> Bool} (xs : List Gsp.Edge) (k : Nat) (hk : k < xs.length) (h : ¬ pr (xs.getD k noEdge) = true) : (xs.take k).filter pr = (xs.take (k + 1)).filter pr := by
  rw [List.take_add_one, getS xs noEdge hk, List.filter_append]
  simp [List.filter_cons, -List.getD_eq_getElem?_getD, h]
def idxE (pr : Gsp.Edge -> Bool) (xs : List Gsp.Edge) : Int := if xs.any pr then (xs.findIdx pr : Int) else -1
theorem idxE_at {pr : Gsp.Edge -> Bool} {xs : List Gsp.Edge} {k : Nat} (hk : k < xs.length) (hb : ∀ j, j < k -> ¬ pr (xs.getD j noEdge) = true) (h : pr (xs.getD k noEdge) = true) : (k : Int) = idxE pr xs := by
  have hx : xs.getD k noEdge = xs[k] := by simp [List.getD, hk]
  have : xs.findIdx pr = k := by
    rw [List.findIdx_eq hk]
    exact ⟨by rw [<- hx]; exact h, fun j hj => by have := hb j hj; simpa [List.getD, show j < xs.length by omega] using this⟩
  rw [idxE, if_pos (by rw [List.any_eq_true]; exact ⟨xs[k], List.getElem_mem hk, by rw [<- hx]; exact h⟩), this]
theorem idxE_no {pr : Gsp.Edge -> Bool} {xs : List Gsp.Edge} {k : Nat} (hk : xs.length <= k) (hb : ∀ j, j < k -> j < xs.length -> ¬ pr (xs.getD j noEdge) = true) : -1 = idxE pr xs := by
  rw [idxE, if_neg]
  rw [List.any_eq_true]
  rintro ⟨y, hy, hp⟩
  obtain ⟨j, hj, rfl⟩ := List.mem_iff_getElem.1 hy
  exact hb j (by omega) hj (by simpa [List.getD, hj] using hp)
def Been (bs : List Bool) (xs : List Gsp.Edge) (k : Nat) : Prop := ∀ v : Nat, v < 12 -> (bs.getD v false = true ↔ ∃ j, j < k /\ ((xs.getD j noEdge).f = (v : Int) \/ (xs.getD j noEdge).t = (v : Int)))
theorem been_first (xs : List Gsp.Edge) : Been (List.replicate 12 false) xs 0 := fun v hv => ⟨fun h => absurd h (by rw [show (List.replicate 12 false).getD v false = false from (show ∀ v, v < 12 -> (List.replicate 12 false).getD v false = false by decide) v hv]; decide), fun ⟨j, hj, _⟩ => absurd hj (Nat.not_lt_zero _)⟩
theorem been_next {bs : List Bool} {xs : List Gsp.Edge} {k : Nat} (hb : bs.length = 12) (h1 : edgeOk (xs.getD k noEdge) = true) (hd : Been bs xs k) : Been ((bs.set (xs.getD k noEdge).f.toNat true).set (xs.getD k noEdge).t.toNat true) xs (k + 1) := by
  have hok := edgeOk_T h1
  intro v hv
  have e : ((bs.set (xs.getD k noEdge).f.toNat true).set (xs.getD k noEdge).t.toNat true).getD v false = true ↔ ((xs.getD k noEdge).t.toNat = v \/ (xs.getD k noEdge).f.toNat = v \/ bs.getD v false = true) := by
    simp only [List.getD, List.getElem?_set, List.length_set, hb]
    by_cases h2 : (xs.getD k noEdge).t.toNat = v
    · simp only [List.getD] at h2; simp [h2, hv]
    · by_cases h3 : (xs.getD k noEdge).f.toNat = v
      · simp only [List.getD] at h2 h3; simp [h2, h3, hv]
      · simp only [List.getD] at h2 h3; simp [h2, h3]
  rw [e, hd v hv]
  constructor
  · rintro (h | h | ⟨j, hj, h⟩)
    · exact ⟨k, by omega, .inr (by omega)⟩
    · exact ⟨k, by omega, .inl (by omega)⟩
    · exact ⟨j, by omega, h⟩
  · rintro ⟨j, hj, h⟩
    by_cases hjk : j = k
    · subst hjk; rcases h with h | h <;> omega
    · exact .inr (.inr ⟨j, by omega, h⟩)
theorem way_next {bs : List Bool} {xs : List Gsp.Edge} {k : Nat} (hz : ∀ j, j < k -> WayAt xs j) (h1 : edgeOk (xs.getD k noEdge) = true) (hl : 0 < k -> (xs.getD (k - 1) noEdge).t = (xs.getD k noEdge).f) (hd : Been bs xs k) (hn : ¬ bs.getD (xs.getD k noEdge).t.toNat false = true) : ∀ j, j < k + 1 -> WayAt xs j := by
  intro j hj
  by_cases hjk : j = k
  · subst hjk
    have hok := edgeOk_T h1
    refine ⟨h1, hl, fun q hq he => ?_⟩
    by_cases hqj : q = j
    · subst hqj; exact hok.2.2.1 he
    · exact hn ((hd _ (by omega)).2 ⟨q, by omega, .inl (by omega)⟩)
  · exact hz j (by omega)
theorem way_fail {bs : List Bool} {xs : List Gsp.Edge} {k : Nat} (hz : ∀ j, j < k -> WayAt xs j) (hd : Been bs xs k) (hn : bs.getD (xs.getD k noEdge).t.toNat false = true) : ¬ WayAt xs k := fun ⟨h1, hl, hw⟩ => by
  have hok := edgeOk_T h1
  obtain ⟨j, hj, h | h⟩ := (hd _ (by omega)).1 hn
  · exact hw j (by omega) (by omega)
  · have hj1 : (xs.getD (j + 1) noEdge).f = (xs.getD j noEdge).t := by
      by_cases hjk : j + 1 = k
      · have := hl (by omega); rw [show k - 1 = j by omega] at this; rw [hjk]; exact this.symm
      · have := (hz (j + 1) (by omega)).2.1 (by omega); rw [show j + 1 - 1 = j by omega] at this; exact this.symm
    exact hw (j + 1) (by omega) (by rw [hj1]; omega)
theorem those_ok {A : Option Addr} {n c : Nat} {xs : List Gsp.Edge} {F : Nat} {caps : Array Value} (pr : Gsp.Edge -> Bool) (hgo : IsGo prog F) (w : World) (hV : Vec w edgeV 9 A n xs) (hn : n <= 1000000) (hf : ∀ (e : Gsp.Edge) (w1 : World), Le w w1 -> Calls prog F (#[.agg (edgeV e).toArray] ++ caps) w1 fun r w2 => r = .returned (.bool (pr e)) /\ Le w1 w2) : Calls prog 159 #[.slice A n c, .func (.func F) #[] caps] w fun r w' => ∃ A' c', r = .returned (.slice A' (xs.filter pr).length c') /\ OVec w' w.heap.size 81 edgeV 9 A' (xs.filter pr).length c' (xs.filter pr) /\ Le w w' := by
 have hl := hV.1
 refine enter func159 rfl rfl ?_
 have L0 := Le.refl w
 refine WC.sr (W.run 1 rfl (W.nx (WC.sr (W.run 1 rfl (W.nx (WC.seq (WC.sr (W.run 1 rfl ?_))))))))
 refine W.r (.len underlying32 rfl) ?_
 refine W.run 1 rfl (W.nx (WC.block ?_))
 refine WC.loop (ι := Nat × (Option Addr) × Nat) (fun ⟨k, Aa, ca⟩ => [(1, .func (.func F) #[] caps), (5, .slice Aa (((xs.take k).filter pr).length) ca), (8, .slice A n c), (9, .int .i64 (((n : Nat) : Int))), (10, .int .i64 (((k : Nat) : Int)))]) (fun ⟨k, Aa, ca⟩ wl0 => (k <= n) /\ Le w wl0 /\ w.heap.size <= wl0.heap.size /\ OVec wl0 w.heap.size 81 edgeV 9 Aa (((xs.take k).filter pr).length) ca ((xs.take k).filter pr)) (fun ⟨k, Aa, ca⟩ => n - k) (0, none, 0) ?_ ?_ ?_
 ·exact .cons rfl (.cons rfl (.cons rfl (.cons rfl (.cons rfl (.nil _)))))
 ·exact ⟨by omega, L0, Nat.le_refl _, (OVec.nil w w.heap.size 81 edgeV 9 none)⟩
 rintro ⟨k, Aa, ca⟩ wl0 ⟨hk, Ll0, zl0, f0_0⟩
 have lb0_2 : w.heap.size <= wl0.heap.size := by omega
 refine WC.sr (W.run 1 rfl (W.nx (WC.seq ?_)))
 by_cases c0 : ((k : Nat) : Int) < ((n : Nat) : Int)
 ·refine WC.condY rfl (decide_eq_true c0) ?_
  refine WC.sn (WC.seq (WC.block (WC.sr ?_)))
  refine W.a (.idxS (k) underlying32 sz81 rfl rfl (hV.isSome edgeV_row (by omega)) (rfl) (by omega)) ?_
  refine W.r (.vload ag81 rfl (hV.le Ll0) edgeV_row (getS xs noEdge (by omega))) ?_
  refine W.ef rfl rfl rfl ?_
  refine Ef.allocA z81 ?_
  intro g4_2 w4_2 hg4_2 b4_2 h4_2
  have L1 := Ll0.trans h4_2
  have b4_2 : Blk w4_2 g4_2 81 (edgeV noEdge).toArray := b4_2
  refine W.ef0 rfl rfl ?_
  refine Ef.storeAll sz81 (by rfl) rfl rfl b4_2 (by simp only [List.size_toArray, edgeV_row.len]) (edgeV_row.one (xs.getD k noEdge)) ?_
  intro w4_3 b4_3 h4_3
  have b4_3 : Blk w4_3 g4_2 81 (edgeV (xs.getD k noEdge)).toArray := b4_3
  have L2 := L1.tb h4_3 Ll0 hg4_2
  refine W.nx (WC.sr (W.run 1 rfl ?_))
  refine W.r (.loadAll ag81 (by rfl) rfl b4_3) ?_
  refine W.ef rfl rfl rfl ?_
  refine Ef.callC hgo rfl rfl rfl (hf _ _ L2) ?_
  rintro _ w5_2 ⟨rfl, h5_2⟩
  refine ⟨_, rfl, ?_⟩
  have L3 := L2.trans h5_2
  refine W.nx ?_
  by_cases c1 : (pr (xs.getD k noEdge)) = true
  ·refine WC.condY rfl (c1) ?_
   refine WC.region (W.run 1 rfl ?_)
   have f4 := (b4_3.le h5_2)
   refine W.r (.loadAll ag81 (by rfl) rfl f4) ?_
   refine W.ef rfl rfl rfl ?_
   refine Ef.buildSliceV (len := 1) [_] underlying32 el81 rfl (by simp [Value.cells, edgeV_row.len]) rfl (by decide) (by decide) ?_
   intro g6_2 w6_2 hg6_2 b6_2 h6_2
   have L5 := L3.trans h6_2
   have b6_2 : Blk w6_2 g6_2 81 (([xs.getD k noEdge]).map edgeV).flatten.toArray := b6_2
   have o6_2 : OVec w6_2 w5_2.heap.size 81 edgeV 9 (some ⟨g6_2, 0, none⟩) 1 1 ([xs.getD k noEdge]) := b6_2.ovec hg6_2 edgeV_row rfl rfl (by decide)
   have f6 := (((f0_0.le h4_2).ch h4_3 (fun q hq => by cases hq; exact (fun he => by have := (f0_0.row he).2; omega))).le (h5_2.trans h6_2))
   refine W.ef rfl rfl rfl ?_
   refine Ef.vpush (a := (xs.getD k noEdge)) underlying32 el81 underlying32 edgeV_row rfl f6 rfl b6_2 (by have := List.length_filter_le pr (xs.take k); simp at this; omega) (by have := List.length_filter_le pr (xs.take k); simp at this; unfold maxLen; omega) (by have := lb0_2; have := h4_2.size; have := h4_3.size; have := h5_2.size; have := h6_2.size; omega) ?_
   intro A6_3 c6_3 w6_3 o6_3 h6_3 at6_3
   have L7 := L5.then_ h6_3 (fun q hq => Nat.le_trans L0.size (f6.row hq).1)
   refine W.run 1 rfl (W.nil (E.blkN (E.thenN (WC.region ?_))))
   refine W.a (.add rfl rfl (by omega)) ?_
   refine W.run 1 rfl (W.nil ?_)
   refine E.again (k + 1, A6_3, c6_3) (.cons rfl (.cons' rfl (slice_eq (by rw [<- filter_T xs k (by omega) c1]; simp)) (.cons rfl (.cons rfl (.cons rfl (.nil _)))))) ?_ ?_
   ·exact ⟨by omega, L7, by have := zl0; have := h4_2.size; have := h4_3.size; have := h5_2.size; have := h6_2.size; have := h6_3.size; omega, (o6_3).cast (by rw [<- filter_T xs k (by omega) c1]; simp) (filter_T xs k (by omega) c1)⟩
   first | omega | (simp only []; omega)
  refine WC.condN rfl ((Bool.eq_false_iff.2 c1)) ?_
  refine WC.skip (E.blkN (E.thenN (WC.region ?_)))
  refine W.a (.add rfl rfl (by omega)) ?_
  refine W.run 1 rfl (W.nil ?_)
  have f8 := (((f0_0.le h4_2).ch h4_3 (fun q hq => by cases hq; exact (fun he => by have := (f0_0.row he).2; omega))).le h5_2)
  refine E.again (k + 1, Aa, ca) (.cons rfl (.cons' rfl (slice_eq (by rw [<- filter_F xs k (by omega) c1])) (.cons rfl (.cons rfl (.cons rfl (.nil _)))))) ?_ ?_
  ·exact ⟨by omega, L3, by have := zl0; have := h4_2.size; have := h4_3.size; have := h5_2.size; omega, (f8).cast (by rw [<- filter_F xs k (by omega) c1]) (filter_F xs k (by omega) c1)⟩
  first | omega | (simp only []; omega)
 refine WC.condN rfl (decide_eq_false c0) ?_
 refine WC.exit (E.thenX (E.thenX (E.blkH (E.thenN (WC.sr (W.run 2 rfl (W.nx (WC.ret ?_))))))))
 refine E.retG1 rfl rfl ?_
 exact ⟨_, _, by rw [List.take_of_length_le (by omega)], f0_0.cast (by rw [List.take_of_length_le (by omega)]) (by rw [List.take_of_length_le (by omega)]), Ll0⟩





theorem in1_ok (e : Gsp.Edge) (p : Int) {g : Nat} (w : World) (hg : Blk w g 3 #[.int .i64 p]) : Calls prog 220 #[.agg (edgeV e).toArray, .pointer (some ⟨g, 0, none⟩)] w fun r w' => r = .returned (.bool (decide (e.t = p))) /\ Le w w' := by
 refine enter func220 rfl rfl ?_
 have L0 := Le.refl w
 refine WC.sr (W.ef rfl rfl rfl ?_)
 refine Ef.boxA rfl ?_
 intro g0_0 w0_0 hg0_0 b0_0 h0_0
 have L1 := L0.trans h0_0
 have b0_0 : Blk w0_0 g0_0 81 (edgeV e).toArray := b0_0
 refine W.run 1 rfl (W.nx (WC.sr ?_))
 refine W.a (.field0 fa81_1 rfl) ?_
 refine W.r (.loadB (v := .int .i64 (e.t)) na3 rfl b0_0 rfl) ?_
 refine W.r (.loadB (v := .int .i64 (p)) na3 rfl (hg.le L1) rfl) ?_
 refine W.run 2 rfl (W.nx (WC.ret ?_))
 refine E.retG1 rfl rfl ?_
 exact ⟨rfl, L1⟩

theorem in_ok (p : Int) {A : Option Addr} {n c : Nat} {xs : List Gsp.Edge} (w : World) (hV : Vec w edgeV 9 A n xs) (hn : n <= 1000000) : Calls prog 118 #[.slice A n c, .int .i64 (p)] w fun r w' => ∃ A' c', r = .returned (.slice A' (xs.filter (fun e => decide (e.t = p))).length c') /\ OVec w' w.heap.size 81 edgeV 9 A' (xs.filter (fun e => decide (e.t = p))).length c' (xs.filter (fun e => decide (e.t = p))) /\ Le w w' := by
 refine enter func118 rfl rfl ?_
 have L0 := Le.refl w
 refine WC.sr (W.ef rfl rfl rfl ?_)
 refine Ef.box rfl ?_
 intro g0_0 w0_0 hg0_0 b0_0 h0_0
 have L1 := L0.trans h0_0
 have b0_0 : Blk w0_0 g0_0 3 #[.int .i64 (p)] := b0_0
 refine W.run 1 rfl (W.nx (WC.sr (W.run 1 rfl ?_)))
 refine W.a (.makeFunc rfl) ?_
 refine W.cl go159 rfl rfl (those_ok (fun e => decide (e.t = p)) go220 w0_0 (hV.le L1) (by omega) (fun e w1 hl => in1_ok e p w1 (b0_0.le hl))) ?_
 rintro _ w1_2 ⟨At1_2, ct1_2, rfl, ot1_2, h1_2⟩
 have L3 := L1.trans h1_2
 refine W.run 1 rfl (W.nx (WC.ret ?_))
 refine E.retG1 rfl rfl ?_
 exact ⟨_, _, rfl, ot1_2.mono h0_0.size, L3⟩

theorem index_ok {A : Option Addr} {n c : Nat} {xs : List Gsp.Edge} {F : Nat} {caps : Array Value} (pr : Gsp.Edge -> Bool) (hgo : IsGo prog F) (w : World) (hV : Vec w edgeV 9 A n xs) (hn : n <= 1000000) (hf : ∀ (e : Gsp.Edge) (w1 : World), Le w w1 -> Calls prog F (#[.agg (edgeV e).toArray] ++ caps) w1 fun r w2 => r = .returned (.bool (pr e)) /\ Le w1 w2) : Calls prog 221 #[.slice A n c, .func (.func F) #[] caps] w fun r w' => r = .returned (.int .i64 (idxE pr xs)) /\ Le w w' := by
 have hl := hV.1
 refine enter func221 rfl rfl ?_
 have L0 := Le.refl w
 refine WC.sr (W.run 1 rfl (W.nx (WC.seq (WC.sr (W.run 1 rfl ?_)))))
 refine W.r (.len underlying32 rfl) ?_
 refine W.run 1 rfl (W.nx (WC.block ?_))
 refine WC.loop (ι := Nat) (fun k => [(0, .slice A n c), (1, .func (.func F) #[] caps), (7, .int .i64 (((n : Nat) : Int))), (8, .int .i64 (((k : Nat) : Int)))]) (fun k wl0 => (k <= n) /\ (∀ j, j < k -> ¬ pr (xs.getD j noEdge) = true) /\ Le w wl0 /\ w.heap.size <= wl0.heap.size) (fun k => n - k) 0 ?_ ?_ ?_
 ·exact .cons rfl (.cons rfl (.cons rfl (.cons rfl (.nil _))))
 ·exact ⟨Nat.zero_le _, fun j hj => absurd hj (Nat.not_lt_zero _), L0, Nat.le_refl _⟩
 rintro k wl0 ⟨hk, hz, Ll0, zl0⟩
 refine WC.sr (W.run 1 rfl (W.nx (WC.seq ?_)))
 by_cases c0 : ((k : Nat) : Int) < ((n : Nat) : Int)
 ·refine WC.condY rfl (decide_eq_true c0) ?_
  refine WC.sn (WC.seq (WC.block (WC.sr (W.run 2 rfl (W.nx (WC.sr (W.run 3 rfl ?_)))))))
  refine W.a (.idxS (k) underlying32 sz81 rfl rfl (hV.isSome edgeV_row (by omega)) (rfl) (by omega)) ?_
  refine W.r (.vload ag81 rfl (hV.le Ll0) edgeV_row (getS xs noEdge (by omega))) ?_
  refine W.ef rfl rfl rfl ?_
  refine Ef.callC hgo rfl rfl rfl (hf _ _ Ll0) ?_
  rintro _ w4_5 ⟨rfl, h4_5⟩
  refine ⟨_, rfl, ?_⟩
  have L1 := Ll0.trans h4_5
  refine W.nx ?_
  by_cases c1 : (pr (xs.getD k noEdge)) = true
  ·refine WC.condY rfl (c1) ?_
   refine WC.sr (W.run 2 rfl (W.nx (WC.ret (E.blkR (E.thenR (E.thenR (E.blkR (E.thenR ?_))))))))
   refine E.retG1 rfl rfl ?_
   exact ⟨by rw [idxE_at (by omega) hz c1], L1⟩
  refine WC.condN rfl ((Bool.eq_false_iff.2 c1)) ?_
  refine WC.skip (E.blkN (E.thenN (WC.region ?_)))
  refine W.a (.add rfl rfl (by omega)) ?_
  refine W.run 1 rfl (W.nil ?_)
  refine E.again (k + 1) (.cons rfl (.cons rfl (.cons rfl (.cons rfl (.nil _))))) ?_ ?_
  ·exact ⟨by omega, fun j hj => by rcases Nat.lt_or_ge j k with h | h; exact hz j h; rw [show j = k by omega]; exact c1, L1, by have := zl0; have := h4_5.size; omega⟩
  first | omega | (simp only []; omega)
 refine WC.condN rfl (decide_eq_false c0) ?_
 refine WC.exit (E.thenX (E.thenX (E.blkH (E.thenN (WC.sr (W.run 1 rfl (W.nx (WC.ret ?_))))))))
 refine E.retG1 rfl rfl ?_
 exact ⟨by rw [idxE_no (k := k) (by omega) (fun j h1 _ => hz j h1)], Ll0⟩





theorem gright_ok {A : Option Addr} {n c : Nat} {xs : List Gsp.Edge} (w : World) (hV : Vec w edgeV 9 A n xs) (hn : n <= 1000000) : Calls prog 68 #[.slice A n c] w fun r w' => r = .returned (.bool (rightG xs)) /\ Le w w' := by
 have hl := hV.1
 refine enter func68 rfl rfl ?_
 have L0 := Le.refl w
 refine WC.sr (W.run 1 rfl (W.nx (WC.seq (WC.sr (W.run 1 rfl ?_)))))
 refine W.r (.len underlying32 rfl) ?_
 refine W.run 1 rfl (W.nx (WC.block ?_))
 refine WC.loop (ι := Nat) (fun k => [(0, .slice A n c), (6, .slice A n c), (7, .int .i64 (((n : Nat) : Int))), (8, .int .i64 (((k : Nat) : Int)))]) (fun k wl0 => (k <= n) /\ (∀ j, j < k -> RightAt xs j) /\ Le w wl0 /\ w.heap.size <= wl0.heap.size) (fun k => n - k) 0 ?_ ?_ ?_
 ·exact .cons rfl (.cons rfl (.cons rfl (.cons rfl (.nil _))))
 ·exact ⟨Nat.zero_le _, fun j hj => absurd hj (Nat.not_lt_zero _), L0, Nat.le_refl _⟩
 rintro k wl0 ⟨hk, hz, Ll0, zl0⟩
 refine WC.sr (W.run 1 rfl (W.nx (WC.seq ?_)))
 by_cases c0 : ((k : Nat) : Int) < ((n : Nat) : Int)
 ·refine WC.condY rfl (decide_eq_true c0) ?_
  refine WC.sn (WC.seq (WC.block (WC.sr (W.run 1 rfl ?_))))
  refine W.a (.idxS (k) underlying32 sz81 rfl rfl (hV.isSome edgeV_row (by omega)) (rfl) (by omega)) ?_
  refine W.r (.vload ag81 rfl (hV.le Ll0) edgeV_row (getS xs noEdge (by omega))) ?_
  refine W.ef rfl rfl rfl ?_
  refine Ef.allocA z81 ?_
  intro g3_3 w3_3 hg3_3 b3_3 h3_3
  have L1 := Ll0.trans h3_3
  have b3_3 : Blk w3_3 g3_3 81 (edgeV noEdge).toArray := b3_3
  refine W.run 1 rfl ?_
  refine W.ef0 rfl rfl ?_
  refine Ef.storeAll sz81 (by rfl) rfl rfl b3_3 (by simp only [List.size_toArray, edgeV_row.len]) (edgeV_row.one (xs.getD k noEdge)) ?_
  intro w3_5 b3_5 h3_5
  have b3_5 : Blk w3_5 g3_3 81 (edgeV (xs.getD k noEdge)).toArray := b3_5
  have L2 := L1.tb h3_5 Ll0 hg3_3
  refine W.nx (WC.seq (WC.seq ?_))
  refine WC.draw [0, 1, 2, 3, 4, 5, 6, 7, 8, 9, 10, 11, 12, 13, 14, 15, 16] mixed (by kernel_rfl) ?_
  intro w4 d4
  have L3 := L2.trans d4
  have f4 := (b3_5.le d4)
  refine G.r rfl (.loadAll ag81 (by rfl) rfl f4) ?_
  refine G.ef rfl rfl rfl rfl rfl ?_
  refine Ef.call go160 rfl rfl (edge_ok (xs.getD k noEdge) w4) ?_
  rintro _ w4_1 ⟨rfl, h4_1⟩
  refine ⟨_, rfl, ?_⟩
  refine ⟨fun _ => h4_1, ?_⟩
  have L5 := L3.trans h4_1
  refine G.run 1 rfl ?_
  by_cases q4_3 : (edgeOk (xs.getD k noEdge)) = true
  ·refine G.a rfl (.dec (.move rfl) (congrArg not (q4_3))) ?_
   refine G.run 2 rfl ?_
   by_cases q4_6 : 0 < ((k : Nat) : Int)
   ·refine G.ag rfl (.dec (.move rfl) (decide_eq_true q4_6)) ?_
    refine G.run 2 rfl ?_
    refine G.ag rfl (.sub rfl rfl (by omega)) ?_
    refine G.ag rfl (.idxS ((k - 1)) underlying32 sz81 rfl rfl (hV.isSome edgeV_row (by omega)) (by omega) (by omega)) ?_
    refine G.rg rfl (.vload ag81 rfl (hV.le L5) edgeV_row (getS xs noEdge (by omega))) ?_
    have f6 := (f4.le h4_1)
    refine G.rg rfl (.loadAll ag81 (by rfl) rfl f6) ?_
    refine G.efg rfl rfl rfl rfl rfl (rfl) rfl rfl ?_
    refine Ef.call go162 rfl rfl (order_ok (xs.getD (k - 1) noEdge) (xs.getD k noEdge) w4_1) ?_
    rintro _ w4_13 ⟨rfl, h4_13⟩
    refine ⟨_, rfl, ?_⟩
    refine ⟨fun _ => h4_13, ?_⟩
    have L7 := L5.trans h4_13
    refine G.run 1 rfl ?_
    refine G.ag rfl (.pickT rfl rfl rfl) ?_
    refine G.run 1 rfl (G.nil (E.thenN ?_))
    by_cases c1 : 0 <= (ordE (xs.getD (k - 1) noEdge) (xs.getD k noEdge))
    ·refine WC.condY rfl (decide_eq_true c1) ?_
     refine WC.sr (W.run 1 rfl (W.nx (WC.ret (E.thenR (E.blkR (E.thenR (E.thenR (E.blkR (E.thenR ?_)))))))))
     refine E.retG1 rfl rfl ?_
     exact ⟨rB (decide_eq_false (fun hr => by have hr := hr k (by omega); unfold RightAt at hr; first | exact absurd hr.1 (by assumption) | (have h2 := hr.2; clear hr; omega))).symm, L7⟩
    refine WC.condN rfl (decide_eq_false c1) ?_
    refine WC.sn (WC.seq (WC.seq ?_))
    refine WC.draw [0, 1, 2, 3, 4, 5, 6, 7, 8, 9, 10, 11, 12] mixed (by kernel_rfl) ?_
    intro w6 d6
    have L8 := L7.trans d6
    refine G.run 2 rfl ?_
    by_cases q6_2 : ((k : Nat) : Int) = 0
    ·refine G.a rfl (.dec (.move rfl) (decide_eq_true q6_2)) ?_
     refine G.run 10 rfl (G.nil (E.thenN (WC.condT rfl (WC.exit (E.thenX (E.blkH (E.thenN (WC.region ?_))))))))
     refine W.a (.add rfl rfl (by omega)) ?_
     refine W.run 1 rfl (W.nil ?_)
     refine E.again (k + 1) (.cons rfl (.cons rfl (.cons rfl (.cons rfl (.nil _))))) ?_ ?_
     ·exact ⟨by omega, fun j hj => by rcases Nat.lt_or_ge j k with h | h; exact hz j h; rw [show j = k by omega]; refine ⟨by assumption, fun _ => ?_, fun ⟨_, _⟩ => ⟨?_, ?_, ?_, ?_⟩⟩ <;> first | omega | (exfalso; omega) | (exact fun ⟨_, _⟩ => by omega), L8, by have := zl0; have := h3_3.size; have := h3_5.size; have := d4.size; have := h4_1.size; have := h4_13.size; have := d6.size; omega⟩
     first | omega | (simp only []; omega)
    refine G.a rfl (.dec (.move rfl) (decide_eq_false q6_2)) ?_
    refine G.run 2 rfl ?_
    refine G.ag rfl (.sub rfl rfl (by omega)) ?_
    refine G.ag rfl (.idxS ((k - 1)) underlying32 sz81 rfl rfl (hV.isSome edgeV_row (by omega)) (by omega) (by omega)) ?_
    refine G.ag rfl (.vfield fa81_2 (hV.isSome edgeV_row (by omega)) rfl) ?_
    refine G.rg rfl (.vcell (j := (k - 1)) (o := 2) (v := .int .i64 ((xs.getD (k - 1) noEdge).c)) na3 rfl (hV.le L8) edgeV_row (getS xs noEdge (by omega)) rfl) ?_
    refine G.ag rfl (.field0 fa81_2 rfl) ?_
    have f9 := (f6.le (h4_13.trans d6))
    refine G.rg rfl (.loadB (v := .int .i64 ((xs.getD k noEdge).c)) na3 rfl f9 rfl) ?_
    refine G.run 2 rfl (G.nil (E.thenN ?_))
    by_cases c2 : ((xs.getD (k - 1) noEdge).c) ≠ ((xs.getD k noEdge).c)
    ·refine WC.condY rfl (decide_eq_true c2) ?_
     refine WC.exit (E.thenX (E.blkH (E.thenN (WC.region ?_))))
     refine W.a (.add rfl rfl (by omega)) ?_
     refine W.run 1 rfl (W.nil ?_)
     refine E.again (k + 1) (.cons rfl (.cons rfl (.cons rfl (.cons rfl (.nil _))))) ?_ ?_
     ·exact ⟨by omega, fun j hj => by rcases Nat.lt_or_ge j k with h | h; exact hz j h; rw [show j = k by omega]; refine ⟨by assumption, fun _ => ?_, fun ⟨_, _⟩ => ⟨?_, ?_, ?_, ?_⟩⟩ <;> first | omega | (exfalso; omega) | (exact fun ⟨_, _⟩ => by omega), L8, by have := zl0; have := h3_3.size; have := h3_5.size; have := d4.size; have := h4_1.size; have := h4_13.size; have := d6.size; omega⟩
     first | omega | (simp only []; omega)
    refine WC.condN rfl (decide_eq_false c2) ?_
    refine WC.sn (WC.sr (W.run 2 rfl ?_))
    refine W.a (.sub rfl rfl (by omega)) ?_
    refine W.a (.idxS ((k - 1)) underlying32 sz81 rfl rfl (hV.isSome edgeV_row (by omega)) (by omega) (by omega)) ?_
    refine W.r (.vload ag81 rfl (hV.le L8) edgeV_row (getS xs noEdge (by omega))) ?_
    refine W.ef rfl rfl rfl ?_
    refine Ef.allocA z81 ?_
    intro g7_5 w7_5 hg7_5 b7_5 h7_5
    have L10 := L8.trans h7_5
    have b7_5 : Blk w7_5 g7_5 81 (edgeV noEdge).toArray := b7_5
    refine W.ef0 rfl rfl ?_
    refine Ef.storeAll sz81 (by rfl) rfl rfl b7_5 (by simp only [List.size_toArray, edgeV_row.len]) (edgeV_row.one (xs.getD (k - 1) noEdge)) ?_
    intro w7_6 b7_6 h7_6
    have b7_6 : Blk w7_6 g7_5 81 (edgeV (xs.getD (k - 1) noEdge)).toArray := b7_6
    have L11 := L10.tb h7_6 L8 hg7_5
    refine W.nx (WC.seq ?_)
    refine WC.draw [0, 1, 2, 3, 4, 5, 6, 7, 8, 9, 10, 11, 12, 13, 14, 15, 16, 17, 18, 19, 20, 21, 22, 23, 24, 25, 26, 27, 28, 29, 30, 31, 32, 33] mixed (by kernel_rfl) ?_
    intro w8 d8
    have L12 := L11.trans d8
    refine G.run 2 rfl ?_
    by_cases q8_2 : 1 < ((k : Nat) : Int)
    ·refine G.a rfl (.dec (.move rfl) (decide_eq_true q8_2)) ?_
     refine G.run 2 rfl ?_
     refine G.ag rfl (.sub rfl rfl (by omega)) ?_
     refine G.ag rfl (.idxS ((k - 2)) underlying32 sz81 rfl rfl (hV.isSome edgeV_row (by omega)) (by omega) (by omega)) ?_
     refine G.ag rfl (.vfield fa81_2 (hV.isSome edgeV_row (by omega)) rfl) ?_
     refine G.rg rfl (.vcell (j := (k - 2)) (o := 2) (v := .int .i64 ((xs.getD (k - 2) noEdge).c)) na3 rfl (hV.le L12) edgeV_row (getS xs noEdge (by omega)) rfl) ?_
     refine G.ag rfl (.field0 fa81_2 rfl) ?_
     have f13 := (((f9.le h7_5).ch h7_6 (fun h => (show g7_5 ≠ g3_3 from by have := f9.lt; omega) (Option.some.inj h))).le d8)
     refine G.rg rfl (.loadB (v := .int .i64 ((xs.getD k noEdge).c)) na3 rfl f13 rfl) ?_
     refine G.run 2 rfl ?_
     by_cases q8_13 : ((xs.getD (k - 2) noEdge).c) = ((xs.getD k noEdge).c)
     ·refine G.a rfl (.dec (.move rfl) (decide_eq_true q8_13)) ?_
      refine G.run 20 rfl (G.nil (E.thenN (WC.condT rfl (WC.sr (W.run 1 rfl (W.nx (WC.ret (E.blkR (E.thenR (E.thenR (E.blkR (E.thenR ?_))))))))))))
      refine E.retG1 rfl rfl ?_
      exact ⟨rB (decide_eq_false (fun hr => by have hr := hr k (by omega); unfold RightAt at hr; first | exact absurd hr.1 (by assumption) | (have h2 := hr.2; clear hr; omega))).symm, L12⟩
     refine G.a rfl (.dec (.move rfl) (decide_eq_false q8_13)) ?_
     refine G.ag rfl (.field0 fa81_0 rfl) ?_
     have f14 := (b7_6.le d8)
     refine G.rg rfl (.loadB (v := .int .i64 ((xs.getD (k - 1) noEdge).f)) na3 rfl f14 rfl) ?_
     refine G.ag rfl (.field0 fa81_1 rfl) ?_
     refine G.rg rfl (.loadB (v := .int .i64 ((xs.getD k noEdge).t)) na3 rfl f13 rfl) ?_
     refine G.run 2 rfl ?_
     by_cases q8_20 : ((xs.getD (k - 1) noEdge).f) ≠ ((xs.getD k noEdge).t)
     ·refine G.a rfl (.dec (.move rfl) (decide_eq_true q8_20)) ?_
      refine G.run 13 rfl (G.nil (E.thenN (WC.condT rfl (WC.sr (W.run 1 rfl (W.nx (WC.ret (E.blkR (E.thenR (E.thenR (E.blkR (E.thenR ?_))))))))))))
      refine E.retG1 rfl rfl ?_
      exact ⟨rB (decide_eq_false (fun hr => by have hr := hr k (by omega); unfold RightAt at hr; first | exact absurd hr.1 (by assumption) | (have h2 := hr.2; clear hr; omega))).symm, L12⟩
     refine G.a rfl (.dec (.move rfl) (decide_eq_false q8_20)) ?_
     refine G.ag rfl (.field0 fa81_1 rfl) ?_
     refine G.rg rfl (.loadB (v := .int .i64 ((xs.getD (k - 1) noEdge).t)) na3 rfl f14 rfl) ?_
     refine G.ag rfl (.field0 fa81_0 rfl) ?_
     refine G.rg rfl (.loadB (v := .int .i64 ((xs.getD k noEdge).f)) na3 rfl f13 rfl) ?_
     refine G.run 2 rfl ?_
     by_cases q8_27 : ((xs.getD (k - 1) noEdge).t) ≠ ((xs.getD k noEdge).f)
     ·refine G.a rfl (.dec (.move rfl) (decide_eq_true q8_27)) ?_
      refine G.run 6 rfl (G.nil (E.thenN (WC.condT rfl (WC.sr (W.run 1 rfl (W.nx (WC.ret (E.blkR (E.thenR (E.thenR (E.blkR (E.thenR ?_))))))))))))
      refine E.retG1 rfl rfl ?_
      exact ⟨rB (decide_eq_false (fun hr => by have hr := hr k (by omega); unfold RightAt at hr; first | exact absurd hr.1 (by assumption) | (have h2 := hr.2; clear hr; omega))).symm, L12⟩
     refine G.a rfl (.dec (.move rfl) (decide_eq_false q8_27)) ?_
     refine G.ag rfl (.field0 fa81_3 rfl) ?_
     refine G.rg rfl (.loadB (v := .int .i64 ((xs.getD (k - 1) noEdge).r)) na3 rfl f14 rfl) ?_
     refine G.ag rfl (.field0 fa81_3 rfl) ?_
     refine G.rg rfl (.loadB (v := .int .i64 ((xs.getD k noEdge).r)) na3 rfl f13 rfl) ?_
     refine G.run 2 rfl (G.nil (E.thenN ?_))
     by_cases c3 : ((xs.getD (k - 1) noEdge).r) ≠ ((xs.getD k noEdge).r)
     ·refine WC.condY rfl (decide_eq_true c3) ?_
      refine WC.sr (W.run 1 rfl (W.nx (WC.ret (E.blkR (E.thenR (E.thenR (E.blkR (E.thenR ?_))))))))
      refine E.retG1 rfl rfl ?_
      exact ⟨rB (decide_eq_false (fun hr => by have hr := hr k (by omega); unfold RightAt at hr; first | exact absurd hr.1 (by assumption) | (have h2 := hr.2; clear hr; omega))).symm, L12⟩
     refine WC.condN rfl (decide_eq_false c3) ?_
     refine WC.skip (E.blkN (E.thenN (WC.region ?_)))
     refine W.a (.add rfl rfl (by omega)) ?_
     refine W.run 1 rfl (W.nil ?_)
     refine E.again (k + 1) (.cons rfl (.cons rfl (.cons rfl (.cons rfl (.nil _))))) ?_ ?_
     ·exact ⟨by omega, fun j hj => by rcases Nat.lt_or_ge j k with h | h; exact hz j h; rw [show j = k by omega]; refine ⟨by assumption, fun _ => ?_, fun ⟨_, _⟩ => ⟨?_, ?_, ?_, ?_⟩⟩ <;> first | omega | (exfalso; omega) | (exact fun ⟨_, _⟩ => by omega), L12, by have := zl0; have := h3_3.size; have := h3_5.size; have := d4.size; have := h4_1.size; have := h4_13.size; have := d6.size; have := h7_5.size; have := h7_6.size; have := d8.size; omega⟩
     first | omega | (simp only []; omega)
    refine G.a rfl (.dec (.move rfl) (decide_eq_false q8_2)) ?_
    refine G.run 11 rfl ?_
    refine G.ag rfl (.field0 fa81_0 rfl) ?_
    have f15 := (b7_6.le d8)
    refine G.rg rfl (.loadB (v := .int .i64 ((xs.getD (k - 1) noEdge).f)) na3 rfl f15 rfl) ?_
    refine G.ag rfl (.field0 fa81_1 rfl) ?_
    have f16 := (((f9.le h7_5).ch h7_6 (fun h => (show g7_5 ≠ g3_3 from by have := f9.lt; omega) (Option.some.inj h))).le d8)
    refine G.rg rfl (.loadB (v := .int .i64 ((xs.getD k noEdge).t)) na3 rfl f16 rfl) ?_
    refine G.run 2 rfl ?_
    by_cases q8_20 : ((xs.getD (k - 1) noEdge).f) ≠ ((xs.getD k noEdge).t)
    ·refine G.a rfl (.dec (.move rfl) (decide_eq_true q8_20)) ?_
     refine G.run 13 rfl (G.nil (E.thenN (WC.condT rfl (WC.sr (W.run 1 rfl (W.nx (WC.ret (E.blkR (E.thenR (E.thenR (E.blkR (E.thenR ?_))))))))))))
     refine E.retG1 rfl rfl ?_
     exact ⟨rB (decide_eq_false (fun hr => by have hr := hr k (by omega); unfold RightAt at hr; first | exact absurd hr.1 (by assumption) | (have h2 := hr.2; clear hr; omega))).symm, L12⟩
    refine G.a rfl (.dec (.move rfl) (decide_eq_false q8_20)) ?_
    refine G.ag rfl (.field0 fa81_1 rfl) ?_
    refine G.rg rfl (.loadB (v := .int .i64 ((xs.getD (k - 1) noEdge).t)) na3 rfl f15 rfl) ?_
    refine G.ag rfl (.field0 fa81_0 rfl) ?_
    refine G.rg rfl (.loadB (v := .int .i64 ((xs.getD k noEdge).f)) na3 rfl f16 rfl) ?_
    refine G.run 2 rfl ?_
    by_cases q8_27 : ((xs.getD (k - 1) noEdge).t) ≠ ((xs.getD k noEdge).f)
    ·refine G.a rfl (.dec (.move rfl) (decide_eq_true q8_27)) ?_
     refine G.run 6 rfl (G.nil (E.thenN (WC.condT rfl (WC.sr (W.run 1 rfl (W.nx (WC.ret (E.blkR (E.thenR (E.thenR (E.blkR (E.thenR ?_))))))))))))
     refine E.retG1 rfl rfl ?_
     exact ⟨rB (decide_eq_false (fun hr => by have hr := hr k (by omega); unfold RightAt at hr; first | exact absurd hr.1 (by assumption) | (have h2 := hr.2; clear hr; omega))).symm, L12⟩
    refine G.a rfl (.dec (.move rfl) (decide_eq_false q8_27)) ?_
    refine G.ag rfl (.field0 fa81_3 rfl) ?_
    refine G.rg rfl (.loadB (v := .int .i64 ((xs.getD (k - 1) noEdge).r)) na3 rfl f15 rfl) ?_
    refine G.ag rfl (.field0 fa81_3 rfl) ?_
    refine G.rg rfl (.loadB (v := .int .i64 ((xs.getD k noEdge).r)) na3 rfl f16 rfl) ?_
    refine G.run 2 rfl (G.nil (E.thenN ?_))
    by_cases c3 : ((xs.getD (k - 1) noEdge).r) ≠ ((xs.getD k noEdge).r)
    ·refine WC.condY rfl (decide_eq_true c3) ?_
     refine WC.sr (W.run 1 rfl (W.nx (WC.ret (E.blkR (E.thenR (E.thenR (E.blkR (E.thenR ?_))))))))
     refine E.retG1 rfl rfl ?_
     exact ⟨rB (decide_eq_false (fun hr => by have hr := hr k (by omega); unfold RightAt at hr; first | exact absurd hr.1 (by assumption) | (have h2 := hr.2; clear hr; omega))).symm, L12⟩
    refine WC.condN rfl (decide_eq_false c3) ?_
    refine WC.skip (E.blkN (E.thenN (WC.region ?_)))
    refine W.a (.add rfl rfl (by omega)) ?_
    refine W.run 1 rfl (W.nil ?_)
    refine E.again (k + 1) (.cons rfl (.cons rfl (.cons rfl (.cons rfl (.nil _))))) ?_ ?_
    ·exact ⟨by omega, fun j hj => by rcases Nat.lt_or_ge j k with h | h; exact hz j h; rw [show j = k by omega]; refine ⟨by assumption, fun _ => ?_, fun ⟨_, _⟩ => ⟨?_, ?_, ?_, ?_⟩⟩ <;> first | omega | (exfalso; omega) | (exact fun ⟨_, _⟩ => by omega), L12, by have := zl0; have := h3_3.size; have := h3_5.size; have := d4.size; have := h4_1.size; have := h4_13.size; have := d6.size; have := h7_5.size; have := h7_6.size; have := d8.size; omega⟩
    first | omega | (simp only []; omega)
   refine G.ag rfl (.dec (.move rfl) (decide_eq_false q4_6)) ?_
   refine G.run 8 rfl ?_
   refine G.ag rfl (.pickF rfl rfl rfl) ?_
   refine G.run 1 rfl (G.nil (E.thenN (WC.condF rfl (WC.sn (WC.seq (WC.seq ?_))))))
   refine WC.draw [0, 1, 2, 3, 4, 5, 6, 7, 8, 9, 10, 11, 12] mixed (by kernel_rfl) ?_
   intro w6 d6
   have L17 := L5.trans d6
   refine G.run 2 rfl ?_
   by_cases q6_2 : ((k : Nat) : Int) = 0
   ·refine G.a rfl (.dec (.move rfl) (decide_eq_true q6_2)) ?_
    refine G.run 10 rfl (G.nil (E.thenN (WC.condT rfl (WC.exit (E.thenX (E.blkH (E.thenN (WC.region ?_))))))))
    refine W.a (.add rfl rfl (by omega)) ?_
    refine W.run 1 rfl (W.nil ?_)
    refine E.again (k + 1) (.cons rfl (.cons rfl (.cons rfl (.cons rfl (.nil _))))) ?_ ?_
    ·exact ⟨by omega, fun j hj => by rcases Nat.lt_or_ge j k with h | h; exact hz j h; rw [show j = k by omega]; refine ⟨by assumption, fun _ => ?_, fun ⟨_, _⟩ => ⟨?_, ?_, ?_, ?_⟩⟩ <;> first | omega | (exfalso; omega) | (exact fun ⟨_, _⟩ => by omega), L17, by have := zl0; have := h3_3.size; have := h3_5.size; have := d4.size; have := h4_1.size; have := d6.size; omega⟩
    first | omega | (simp only []; omega)
   refine G.a rfl (.dec (.move rfl) (decide_eq_false q6_2)) ?_
   refine G.run 2 rfl ?_
   refine G.ag rfl (.sub rfl rfl (by omega)) ?_
   refine G.ag rfl (.idxS ((k - 1)) underlying32 sz81 rfl rfl (hV.isSome edgeV_row (by omega)) (by omega) (by omega)) ?_
   refine G.ag rfl (.vfield fa81_2 (hV.isSome edgeV_row (by omega)) rfl) ?_
   refine G.rg rfl (.vcell (j := (k - 1)) (o := 2) (v := .int .i64 ((xs.getD (k - 1) noEdge).c)) na3 rfl (hV.le L17) edgeV_row (getS xs noEdge (by omega)) rfl) ?_
   refine G.ag rfl (.field0 fa81_2 rfl) ?_
   have f18 := (f4.le (h4_1.trans d6))
   refine G.rg rfl (.loadB (v := .int .i64 ((xs.getD k noEdge).c)) na3 rfl f18 rfl) ?_
   refine G.run 2 rfl (G.nil (E.thenN ?_))
   by_cases c2 : ((xs.getD (k - 1) noEdge).c) ≠ ((xs.getD k noEdge).c)
   ·refine WC.condY rfl (decide_eq_true c2) ?_
    refine WC.exit (E.thenX (E.blkH (E.thenN (WC.region ?_))))
    refine W.a (.add rfl rfl (by omega)) ?_
    refine W.run 1 rfl (W.nil ?_)
    refine E.again (k + 1) (.cons rfl (.cons rfl (.cons rfl (.cons rfl (.nil _))))) ?_ ?_
    ·exact ⟨by omega, fun j hj => by rcases Nat.lt_or_ge j k with h | h; exact hz j h; rw [show j = k by omega]; refine ⟨by assumption, fun _ => ?_, fun ⟨_, _⟩ => ⟨?_, ?_, ?_, ?_⟩⟩ <;> first | omega | (exfalso; omega) | (exact fun ⟨_, _⟩ => by omega), L17, by have := zl0; have := h3_3.size; have := h3_5.size; have := d4.size; have := h4_1.size; have := d6.size; omega⟩
    first | omega | (simp only []; omega)
   refine WC.condN rfl (decide_eq_false c2) ?_
   refine WC.sn (WC.sr (W.run 2 rfl ?_))
   refine W.a (.sub rfl rfl (by omega)) ?_
   refine W.a (.idxS ((k - 1)) underlying32 sz81 rfl rfl (hV.isSome edgeV_row (by omega)) (by omega) (by omega)) ?_
   refine W.r (.vload ag81 rfl (hV.le L17) edgeV_row (getS xs noEdge (by omega))) ?_
   refine W.ef rfl rfl rfl ?_
   refine Ef.allocA z81 ?_
   intro g7_5_1 w7_5_1 hg7_5_1 b7_5_1 h7_5_1
   have L19 := L17.trans h7_5_1
   have b7_5_1 : Blk w7_5_1 g7_5_1 81 (edgeV noEdge).toArray := b7_5_1
   refine W.ef0 rfl rfl ?_
   refine Ef.storeAll sz81 (by rfl) rfl rfl b7_5_1 (by simp only [List.size_toArray, edgeV_row.len]) (edgeV_row.one (xs.getD (k - 1) noEdge)) ?_
   intro w7_6_1 b7_6_1 h7_6_1
   have b7_6_1 : Blk w7_6_1 g7_5_1 81 (edgeV (xs.getD (k - 1) noEdge)).toArray := b7_6_1
   have L20 := L19.tb h7_6_1 L17 hg7_5_1
   refine W.nx (WC.seq ?_)
   refine WC.draw [0, 1, 2, 3, 4, 5, 6, 7, 8, 9, 10, 11, 12, 13, 14, 15, 16, 17, 18, 19, 20, 21, 22, 23, 24, 25, 26, 27, 28, 29, 30, 31, 32, 33] mixed (by kernel_rfl) ?_
   intro w8 d8
   have L21 := L20.trans d8
   refine G.run 2 rfl ?_
   by_cases q8_2 : 1 < ((k : Nat) : Int)
   ·refine G.a rfl (.dec (.move rfl) (decide_eq_true q8_2)) ?_
    refine G.run 2 rfl ?_
    refine G.ag rfl (.sub rfl rfl (by omega)) ?_
    refine G.ag rfl (.idxS ((k - 2)) underlying32 sz81 rfl rfl (hV.isSome edgeV_row (by omega)) (by omega) (by omega)) ?_
    refine G.ag rfl (.vfield fa81_2 (hV.isSome edgeV_row (by omega)) rfl) ?_
    refine G.rg rfl (.vcell (j := (k - 2)) (o := 2) (v := .int .i64 ((xs.getD (k - 2) noEdge).c)) na3 rfl (hV.le L21) edgeV_row (getS xs noEdge (by omega)) rfl) ?_
    refine G.ag rfl (.field0 fa81_2 rfl) ?_
    have f22 := (((f18.le h7_5_1).ch h7_6_1 (fun h => (show g7_5_1 ≠ g3_3 from by have := f18.lt; omega) (Option.some.inj h))).le d8)
    refine G.rg rfl (.loadB (v := .int .i64 ((xs.getD k noEdge).c)) na3 rfl f22 rfl) ?_
    refine G.run 2 rfl ?_
    by_cases q8_13 : ((xs.getD (k - 2) noEdge).c) = ((xs.getD k noEdge).c)
    ·refine G.a rfl (.dec (.move rfl) (decide_eq_true q8_13)) ?_
     refine G.run 20 rfl (G.nil (E.thenN (WC.condT rfl (WC.sr (W.run 1 rfl (W.nx (WC.ret (E.blkR (E.thenR (E.thenR (E.blkR (E.thenR ?_))))))))))))
     refine E.retG1 rfl rfl ?_
     exact ⟨rB (decide_eq_false (fun hr => by have hr := hr k (by omega); unfold RightAt at hr; first | exact absurd hr.1 (by assumption) | (have h2 := hr.2; clear hr; omega))).symm, L21⟩
    refine G.a rfl (.dec (.move rfl) (decide_eq_false q8_13)) ?_
    refine G.ag rfl (.field0 fa81_0 rfl) ?_
    have f23 := (b7_6_1.le d8)
    refine G.rg rfl (.loadB (v := .int .i64 ((xs.getD (k - 1) noEdge).f)) na3 rfl f23 rfl) ?_
    refine G.ag rfl (.field0 fa81_1 rfl) ?_
    refine G.rg rfl (.loadB (v := .int .i64 ((xs.getD k noEdge).t)) na3 rfl f22 rfl) ?_
    refine G.run 2 rfl ?_
    by_cases q8_20 : ((xs.getD (k - 1) noEdge).f) ≠ ((xs.getD k noEdge).t)
    ·refine G.a rfl (.dec (.move rfl) (decide_eq_true q8_20)) ?_
     refine G.run 13 rfl (G.nil (E.thenN (WC.condT rfl (WC.sr (W.run 1 rfl (W.nx (WC.ret (E.blkR (E.thenR (E.thenR (E.blkR (E.thenR ?_))))))))))))
     refine E.retG1 rfl rfl ?_
     exact ⟨rB (decide_eq_false (fun hr => by have hr := hr k (by omega); unfold RightAt at hr; first | exact absurd hr.1 (by assumption) | (have h2 := hr.2; clear hr; omega))).symm, L21⟩
    refine G.a rfl (.dec (.move rfl) (decide_eq_false q8_20)) ?_
    refine G.ag rfl (.field0 fa81_1 rfl) ?_
    refine G.rg rfl (.loadB (v := .int .i64 ((xs.getD (k - 1) noEdge).t)) na3 rfl f23 rfl) ?_
    refine G.ag rfl (.field0 fa81_0 rfl) ?_
    refine G.rg rfl (.loadB (v := .int .i64 ((xs.getD k noEdge).f)) na3 rfl f22 rfl) ?_
    refine G.run 2 rfl ?_
    by_cases q8_27 : ((xs.getD (k - 1) noEdge).t) ≠ ((xs.getD k noEdge).f)
    ·refine G.a rfl (.dec (.move rfl) (decide_eq_true q8_27)) ?_
     refine G.run 6 rfl (G.nil (E.thenN (WC.condT rfl (WC.sr (W.run 1 rfl (W.nx (WC.ret (E.blkR (E.thenR (E.thenR (E.blkR (E.thenR ?_))))))))))))
     refine E.retG1 rfl rfl ?_
     exact ⟨rB (decide_eq_false (fun hr => by have hr := hr k (by omega); unfold RightAt at hr; first | exact absurd hr.1 (by assumption) | (have h2 := hr.2; clear hr; omega))).symm, L21⟩
    refine G.a rfl (.dec (.move rfl) (decide_eq_false q8_27)) ?_
    refine G.ag rfl (.field0 fa81_3 rfl) ?_
    refine G.rg rfl (.loadB (v := .int .i64 ((xs.getD (k - 1) noEdge).r)) na3 rfl f23 rfl) ?_
    refine G.ag rfl (.field0 fa81_3 rfl) ?_
    refine G.rg rfl (.loadB (v := .int .i64 ((xs.getD k noEdge).r)) na3 rfl f22 rfl) ?_
    refine G.run 2 rfl (G.nil (E.thenN ?_))
    by_cases c3 : ((xs.getD (k - 1) noEdge).r) ≠ ((xs.getD k noEdge).r)
    ·refine WC.condY rfl (decide_eq_true c3) ?_
     refine WC.sr (W.run 1 rfl (W.nx (WC.ret (E.blkR (E.thenR (E.thenR (E.blkR (E.thenR ?_))))))))
     refine E.retG1 rfl rfl ?_
     exact ⟨rB (decide_eq_false (fun hr => by have hr := hr k (by omega); unfold RightAt at hr; first | exact absurd hr.1 (by assumption) | (have h2 := hr.2; clear hr; omega))).symm, L21⟩
    refine WC.condN rfl (decide_eq_false c3) ?_
    refine WC.skip (E.blkN (E.thenN (WC.region ?_)))
    refine W.a (.add rfl rfl (by omega)) ?_
    refine W.run 1 rfl (W.nil ?_)
    refine E.again (k + 1) (.cons rfl (.cons rfl (.cons rfl (.cons rfl (.nil _))))) ?_ ?_
    ·exact ⟨by omega, fun j hj => by rcases Nat.lt_or_ge j k with h | h; exact hz j h; rw [show j = k by omega]; refine ⟨by assumption, fun _ => ?_, fun ⟨_, _⟩ => ⟨?_, ?_, ?_, ?_⟩⟩ <;> first | omega | (exfalso; omega) | (exact fun ⟨_, _⟩ => by omega), L21, by have := zl0; have := h3_3.size; have := h3_5.size; have := d4.size; have := h4_1.size; have := d6.size; have := h7_5_1.size; have := h7_6_1.size; have := d8.size; omega⟩
    first | omega | (simp only []; omega)
   refine G.a rfl (.dec (.move rfl) (decide_eq_false q8_2)) ?_
   refine G.run 11 rfl ?_
   refine G.ag rfl (.field0 fa81_0 rfl) ?_
   have f24 := (b7_6_1.le d8)
   refine G.rg rfl (.loadB (v := .int .i64 ((xs.getD (k - 1) noEdge).f)) na3 rfl f24 rfl) ?_
   refine G.ag rfl (.field0 fa81_1 rfl) ?_
   have f25 := (((f18.le h7_5_1).ch h7_6_1 (fun h => (show g7_5_1 ≠ g3_3 from by have := f18.lt; omega) (Option.some.inj h))).le d8)
   refine G.rg rfl (.loadB (v := .int .i64 ((xs.getD k noEdge).t)) na3 rfl f25 rfl) ?_
   refine G.run 2 rfl ?_
   by_cases q8_20 : ((xs.getD (k - 1) noEdge).f) ≠ ((xs.getD k noEdge).t)
   ·refine G.a rfl (.dec (.move rfl) (decide_eq_true q8_20)) ?_
    refine G.run 13 rfl (G.nil (E.thenN (WC.condT rfl (WC.sr (W.run 1 rfl (W.nx (WC.ret (E.blkR (E.thenR (E.thenR (E.blkR (E.thenR ?_))))))))))))
    refine E.retG1 rfl rfl ?_
    exact ⟨rB (decide_eq_false (fun hr => by have hr := hr k (by omega); unfold RightAt at hr; first | exact absurd hr.1 (by assumption) | (have h2 := hr.2; clear hr; omega))).symm, L21⟩
   refine G.a rfl (.dec (.move rfl) (decide_eq_false q8_20)) ?_
   refine G.ag rfl (.field0 fa81_1 rfl) ?_
   refine G.rg rfl (.loadB (v := .int .i64 ((xs.getD (k - 1) noEdge).t)) na3 rfl f24 rfl) ?_
   refine G.ag rfl (.field0 fa81_0 rfl) ?_
   refine G.rg rfl (.loadB (v := .int .i64 ((xs.getD k noEdge).f)) na3 rfl f25 rfl) ?_
   refine G.run 2 rfl ?_
   by_cases q8_27 : ((xs.getD (k - 1) noEdge).t) ≠ ((xs.getD k noEdge).f)
   ·refine G.a rfl (.dec (.move rfl) (decide_eq_true q8_27)) ?_
    refine G.run 6 rfl (G.nil (E.thenN (WC.condT rfl (WC.sr (W.run 1 rfl (W.nx (WC.ret (E.blkR (E.thenR (E.thenR (E.blkR (E.thenR ?_))))))))))))
    refine E.retG1 rfl rfl ?_
    exact ⟨rB (decide_eq_false (fun hr => by have hr := hr k (by omega); unfold RightAt at hr; first | exact absurd hr.1 (by assumption) | (have h2 := hr.2; clear hr; omega))).symm, L21⟩
   refine G.a rfl (.dec (.move rfl) (decide_eq_false q8_27)) ?_
   refine G.ag rfl (.field0 fa81_3 rfl) ?_
   refine G.rg rfl (.loadB (v := .int .i64 ((xs.getD (k - 1) noEdge).r)) na3 rfl f24 rfl) ?_
   refine G.ag rfl (.field0 fa81_3 rfl) ?_
   refine G.rg rfl (.loadB (v := .int .i64 ((xs.getD k noEdge).r)) na3 rfl f25 rfl) ?_
   refine G.run 2 rfl (G.nil (E.thenN ?_))
   by_cases c3 : ((xs.getD (k - 1) noEdge).r) ≠ ((xs.getD k noEdge).r)
   ·refine WC.condY rfl (decide_eq_true c3) ?_
    refine WC.sr (W.run 1 rfl (W.nx (WC.ret (E.blkR (E.thenR (E.thenR (E.blkR (E.thenR ?_))))))))
    refine E.retG1 rfl rfl ?_
    exact ⟨rB (decide_eq_false (fun hr => by have hr := hr k (by omega); unfold RightAt at hr; first | exact absurd hr.1 (by assumption) | (have h2 := hr.2; clear hr; omega))).symm, L21⟩
   refine WC.condN rfl (decide_eq_false c3) ?_
   refine WC.skip (E.blkN (E.thenN (WC.region ?_)))
   refine W.a (.add rfl rfl (by omega)) ?_
   refine W.run 1 rfl (W.nil ?_)
   refine E.again (k + 1) (.cons rfl (.cons rfl (.cons rfl (.cons rfl (.nil _))))) ?_ ?_
   ·exact ⟨by omega, fun j hj => by rcases Nat.lt_or_ge j k with h | h; exact hz j h; rw [show j = k by omega]; refine ⟨by assumption, fun _ => ?_, fun ⟨_, _⟩ => ⟨?_, ?_, ?_, ?_⟩⟩ <;> first | omega | (exfalso; omega) | (exact fun ⟨_, _⟩ => by omega), L21, by have := zl0; have := h3_3.size; have := h3_5.size; have := d4.size; have := h4_1.size; have := d6.size; have := h7_5_1.size; have := h7_6_1.size; have := d8.size; omega⟩
   first | omega | (simp only []; omega)
  refine G.a rfl (.dec (.move rfl) (congrArg not ((Bool.eq_false_iff.2 q4_3)))) ?_
  refine G.run 3 rfl ?_
  refine G.skipu rfl rfl rfl rfl rfl rfl ?_
  refine G.skipu rfl rfl rfl rfl rfl rfl ?_
  refine G.skipu rfl rfl rfl rfl rfl rfl ?_
  refine G.skipu rfl rfl rfl rfl rfl rfl ?_
  refine G.skipu rfl rfl rfl rfl rfl rfl ?_
  refine G.skipu rfl rfl rfl rfl rfl rfl ?_
  refine G.skipu rfl rfl rfl rfl rfl rfl ?_
  refine G.skipu rfl rfl rfl rfl rfl rfl ?_
  refine G.run 2 rfl (G.nil (E.thenN (WC.condT rfl (WC.sr (W.run 1 rfl (W.nx (WC.ret (E.thenR (E.blkR (E.thenR (E.thenR (E.blkR (E.thenR ?_)))))))))))))
  refine E.retG1 rfl rfl ?_
  exact ⟨rB (decide_eq_false (fun hr => by have hr := hr k (by omega); unfold RightAt at hr; first | exact absurd hr.1 (by assumption) | (have h2 := hr.2; clear hr; omega))).symm, L5⟩
 refine WC.condN rfl (decide_eq_false c0) ?_
 refine WC.exit (E.thenX (E.thenX (E.blkH (E.thenN (WC.sr (W.run 1 rfl (W.nx (WC.ret ?_))))))))
 refine E.retG1 rfl rfl ?_
 exact ⟨rB (decide_eq_true (fun j hj => hz j (by omega))).symm, Ll0⟩

theorem gway_ok {A : Option Addr} {n c : Nat} {xs : List Gsp.Edge} (w : World) (hV : Vec w edgeV 9 A n xs) (hn : n <= 1000000) : Calls prog 101 #[.slice A n c] w fun r w' => r = .returned (.bool (wayG xs)) /\ Le w w' := by
 have hl := hV.1
 refine enter func101 rfl rfl ?_
 have L0 := Le.refl w
 refine WC.sr (W.run 1 rfl (W.nx (WC.seq (WC.sr (W.run 1 rfl ?_)))))
 refine W.r (.len underlying32 rfl) ?_
 refine W.cl go102 rfl rfl (gin_ok ((n : Nat) : Int) 1 8 w) ?_
 rintro _ w1_2 ⟨rfl, h1_2⟩
 have L1 := L0.trans h1_2
 refine W.run 1 rfl (W.nx ?_)
 by_cases c0 : (inB ((n : Nat) : Int) 1 8) = true
 ·refine WC.condN rfl (congrArg not (c0)) ?_
  refine WC.sn (WC.sr (W.ef rfl rfl rfl ?_))
  refine Ef.allocA z288 ?_
  intro g3_0 w3_0 hg3_0 b3_0 h3_0
  have L2 := L1.trans h3_0
  have b3_0 : Blk w3_0 g3_0 288 (((List.replicate 12 false)).map Value.bool).toArray := b3_0.cast (rfl)
  refine W.nx (WC.seq (WC.sr (W.run 1 rfl ?_)))
  refine W.r (.len underlying32 rfl) ?_
  refine W.run 1 rfl (W.nx (WC.block ?_))
  refine WC.loop (ι := Nat × (List Bool)) (fun ⟨k, bs⟩ => [(0, .slice A n c), (3, .pointer (some ⟨g3_0, 0, none⟩)), (10, .slice A n c), (11, .int .i64 (((n : Nat) : Int))), (12, .int .i64 (((k : Nat) : Int)))]) (fun ⟨k, bs⟩ wl0 => (k <= n) /\ (bs.length = 12) /\ (∀ j, j < k -> WayAt xs j) /\ (Been bs xs k) /\ Le w wl0 /\ w3_0.heap.size <= wl0.heap.size /\ Blk wl0 g3_0 288 (bs.map Value.bool).toArray) (fun ⟨k, bs⟩ => n - k) (0, (List.replicate 12 false)) ?_ ?_ ?_
  ·exact .cons rfl (.cons rfl (.cons rfl (.cons rfl (.cons rfl (.nil _)))))
  ·exact ⟨Nat.zero_le _, rfl, fun j hj => absurd hj (Nat.not_lt_zero _), been_first xs, L2, Nat.le_refl _, b3_0⟩
  rintro ⟨k, bs⟩ wl0 ⟨hk, hb, hz, hd, Ll0, zl0, f0_0⟩
  refine WC.sr (W.run 1 rfl (W.nx (WC.seq ?_)))
  by_cases c1 : ((k : Nat) : Int) < ((n : Nat) : Int)
  ·refine WC.condY rfl (decide_eq_true c1) ?_
   refine WC.sn (WC.seq (WC.block (WC.sr (W.run 1 rfl ?_))))
   refine W.a (.idxS (k) underlying32 sz81 rfl rfl (hV.isSome edgeV_row (by omega)) (rfl) (by omega)) ?_
   refine W.r (.vload ag81 rfl (hV.le Ll0) edgeV_row (getS xs noEdge (by omega))) ?_
   refine W.ef rfl rfl rfl ?_
   refine Ef.allocA z81 ?_
   intro g6_3 w6_3 hg6_3 b6_3 h6_3
   have L3 := Ll0.trans h6_3
   have b6_3 : Blk w6_3 g6_3 81 (edgeV noEdge).toArray := b6_3
   refine W.run 1 rfl ?_
   refine W.ef0 rfl rfl ?_
   refine Ef.storeAll sz81 (by rfl) rfl rfl b6_3 (by simp only [List.size_toArray, edgeV_row.len]) (edgeV_row.one (xs.getD k noEdge)) ?_
   intro w6_5 b6_5 h6_5
   have b6_5 : Blk w6_5 g6_3 81 (edgeV (xs.getD k noEdge)).toArray := b6_5
   have L4 := L3.tb h6_5 Ll0 hg6_3
   refine W.nx (WC.seq (WC.seq ?_))
   refine WC.draw [0, 1, 2, 3, 4, 5, 6, 7, 8, 9, 10, 11, 12, 13, 14, 15, 16, 17, 18, 19, 20, 21, 22, 23] mixed (by kernel_rfl) ?_
   intro w7 d7
   have L5 := L4.trans d7
   have f6 := (b6_5.le d7)
   refine G.r rfl (.loadAll ag81 (by rfl) rfl f6) ?_
   refine G.ef rfl rfl rfl rfl rfl ?_
   refine Ef.call go160 rfl rfl (edge_ok (xs.getD k noEdge) w7) ?_
   rintro _ w7_1 ⟨rfl, h7_1⟩
   refine ⟨_, rfl, ?_⟩
   refine ⟨fun _ => h7_1, ?_⟩
   have L7 := L5.trans h7_1
   refine G.run 1 rfl ?_
   by_cases q7_3 : (edgeOk (xs.getD k noEdge)) = true
   ·refine G.a rfl (.dec (.move rfl) (congrArg not (q7_3))) ?_
    refine G.run 2 rfl ?_
    by_cases q7_6 : 0 < ((k : Nat) : Int)
    ·refine G.ag rfl (.dec (.move rfl) (decide_eq_true q7_6)) ?_
     refine G.run 2 rfl ?_
     refine G.ag rfl (.sub rfl rfl (by omega)) ?_
     refine G.ag rfl (.idxS ((k - 1)) underlying32 sz81 rfl rfl (hV.isSome edgeV_row (by omega)) (by omega) (by omega)) ?_
     refine G.ag rfl (.vfield fa81_1 (hV.isSome edgeV_row (by omega)) rfl) ?_
     refine G.rg rfl (.vcell (j := (k - 1)) (o := 1) (v := .int .i64 ((xs.getD (k - 1) noEdge).t)) na3 rfl (hV.le L7) edgeV_row (getS xs noEdge (by omega)) rfl) ?_
     refine G.ag rfl (.field0 fa81_0 rfl) ?_
     have f8 := (f6.le h7_1)
     refine G.rg rfl (.loadB (v := .int .i64 ((xs.getD k noEdge).f)) na3 rfl f8 rfl) ?_
     refine G.run 1 rfl ?_
     refine G.ag rfl (.pickT rfl rfl rfl) ?_
     refine G.run 1 rfl ?_
     by_cases q7_18 : ((xs.getD (k - 1) noEdge).t) ≠ ((xs.getD k noEdge).f)
     ·refine G.a rfl (.dec (.move rfl) (decide_eq_true q7_18)) ?_
      refine G.run 5 rfl (G.nil (E.thenN (WC.condT rfl (WC.sr (W.run 1 rfl (W.nx (WC.ret (E.thenR (E.blkR (E.thenR (E.thenR (E.blkR (E.thenR ?_)))))))))))))
      refine E.retG1 rfl rfl ?_
      exact ⟨rB (decide_eq_false (fun hr => by have hr := hr.2 k (by omega); first | exact absurd hr.1 (by assumption) | exact way_fail hz hd (by assumption) hr | (have := hr.2.1; omega))).symm, L7⟩
     refine G.a rfl (.dec (.move rfl) (decide_eq_false q7_18)) ?_
     refine G.ag rfl (.field0 fa81_1 rfl) ?_
     refine G.rg rfl (.loadB (v := .int .i64 ((xs.getD k noEdge).t)) na3 rfl f8 rfl) ?_
     have hok := edgeOk_T (show edgeOk (xs.getD k noEdge) = true by assumption)
     refine G.ag rfl (.idxA1 (((xs.getD k noEdge).t).toNat) underlying288 sz4 rfl rfl (by omega) (by omega)) ?_
     have f9 := (((f0_0.le h6_3).ch h6_5 (fun h => (show g6_3 ≠ g3_0 from by have := f0_0.lt; omega) (Option.some.inj h))).le (d7.trans h7_1))
     refine G.rg rfl (.loadB na4 rfl f9 (getA bs false (by omega))) ?_
     refine G.run 1 rfl (G.nil (E.thenN ?_))
     by_cases c2 : ((bs).getD (((xs.getD k noEdge).t).toNat) false) = true
     ·refine WC.condY rfl (c2) ?_
      refine WC.sr (W.run 1 rfl (W.nx (WC.ret (E.thenR (E.blkR (E.thenR (E.thenR (E.blkR (E.thenR ?_)))))))))
      refine E.retG1 rfl rfl ?_
      exact ⟨rB (decide_eq_false (fun hr => by have hr := hr.2 k (by omega); first | exact absurd hr.1 (by assumption) | exact way_fail hz hd (by assumption) hr | (have := hr.2.1; omega))).symm, L7⟩
     refine WC.condN rfl ((Bool.eq_false_iff.2 c2)) ?_
     refine WC.sn ?_
     refine WC.drawS (fun w9 w' => Le w w' /\ Blk w' g6_3 81 (edgeV (xs.getD k noEdge)).toArray) [0, 1, 2, 3, 4, 5, 6, 7] mixed (by kernel_rfl) ?_
     intro w9 d9
     have L10 := L7.trans d9
     have f11 := (f8.le d9)
     refine ⟨⟨L10, f11⟩, ?_⟩
     have hok := edgeOk_T (show edgeOk (xs.getD k noEdge) = true by assumption)
     refine GS.any rfl rfl (.field0 fa81_0 rfl) rfl rfl rfl ?_
     refine GS.rd rfl rfl (fun w' hs => .loadB (v := .int .i64 ((xs.getD k noEdge).f)) na3 rfl hs.2 rfl) rfl rfl rfl ?_
     refine GS.any rfl rfl (.field0 fa81_1 rfl) rfl rfl rfl ?_
     refine GS.rd rfl rfl (fun w' hs => .loadB (v := .int .i64 ((xs.getD k noEdge).t)) na3 rfl hs.2 rfl) rfl rfl rfl ?_
     refine GS.any rfl rfl (.idxA1 (((xs.getD k noEdge).f).toNat) underlying288 sz4 rfl rfl (by omega) (by omega)) rfl rfl rfl ?_
     have f12 := (f9.le d9)
     refine GS.ef0 rfl rfl rfl rfl ?_
     refine Ef.store sz4 rfl rfl f12 (by simp only [List.size_toArray, List.length_map, List.length_set]; omega) rfl ?_
     intro w9_5 b9_5 h9_5
     have b9_5 : Blk w9_5 g3_0 288 ((bs.set (((xs.getD k noEdge).f).toNat) true).map Value.bool).toArray := bset b9_5
     have L13 := L10.tb h9_5 L1 hg3_0
     have f14 := (f11.ch h9_5 (fun h => (show g3_0 ≠ g6_3 from by have := f0_0.lt; omega) (Option.some.inj h)))
     refine ⟨⟨L13, f14⟩, ?_⟩
     refine GS.any rfl rfl (.idxA1 (((xs.getD k noEdge).t).toNat) underlying288 sz4 rfl rfl (by omega) (by omega)) rfl rfl rfl ?_
     refine GS.ef0 rfl rfl rfl rfl ?_
     refine Ef.store sz4 rfl rfl b9_5 (by simp only [List.size_toArray, List.length_map, List.length_set]; omega) rfl ?_
     intro w9_7 b9_7 h9_7
     have b9_7 : Blk w9_7 g3_0 288 (((bs.set (((xs.getD k noEdge).f).toNat) true).set (((xs.getD k noEdge).t).toNat) true).map Value.bool).toArray := bset b9_7
     have L15 := L13.tb h9_7 L1 hg3_0
     have f16 := (f14.ch h9_7 (fun h => (show g3_0 ≠ g6_3 from by have := f0_0.lt; omega) (Option.some.inj h)))
     refine ⟨⟨L15, f16⟩, ?_⟩
     refine GS.nil ?_
     refine E.blkN (E.thenN (WC.region ?_))
     refine W.a (.add rfl rfl (by omega)) ?_
     refine W.run 1 rfl (W.nil ?_)
     refine E.again (k + 1, ((bs.set (xs.getD k noEdge).f.toNat true).set (xs.getD k noEdge).t.toNat true)) (.cons rfl (.cons rfl (.cons rfl (.cons rfl (.cons rfl (.nil _)))))) ?_ ?_
     ·exact ⟨by omega, by simp [hb], way_next hz (by assumption) (by intro h0; omega) hd (by assumption), been_next hb (by assumption) hd, L15, by have := zl0; have := h6_3.size; have := h6_5.size; have := d7.size; have := h7_1.size; have := d9.size; have := h9_5.size; have := h9_7.size; omega, b9_7⟩
     first | omega | (simp only []; omega)
    refine G.ag rfl (.dec (.move rfl) (decide_eq_false q7_6)) ?_
    refine G.run 9 rfl ?_
    refine G.ag rfl (.pickF rfl rfl rfl) ?_
    refine G.run 2 rfl ?_
    refine G.ag rfl (.field0 fa81_1 rfl) ?_
    have f17 := (f6.le h7_1)
    refine G.rg rfl (.loadB (v := .int .i64 ((xs.getD k noEdge).t)) na3 rfl f17 rfl) ?_
    have hok := edgeOk_T (show edgeOk (xs.getD k noEdge) = true by assumption)
    refine G.ag rfl (.idxA1 (((xs.getD k noEdge).t).toNat) underlying288 sz4 rfl rfl (by omega) (by omega)) ?_
    have f18 := (((f0_0.le h6_3).ch h6_5 (fun h => (show g6_3 ≠ g3_0 from by have := f0_0.lt; omega) (Option.some.inj h))).le (d7.trans h7_1))
    refine G.rg rfl (.loadB na4 rfl f18 (getA bs false (by omega))) ?_
    refine G.run 1 rfl (G.nil (E.thenN ?_))
    by_cases c2 : ((bs).getD (((xs.getD k noEdge).t).toNat) false) = true
    ·refine WC.condY rfl (c2) ?_
     refine WC.sr (W.run 1 rfl (W.nx (WC.ret (E.thenR (E.blkR (E.thenR (E.thenR (E.blkR (E.thenR ?_)))))))))
     refine E.retG1 rfl rfl ?_
     exact ⟨rB (decide_eq_false (fun hr => by have hr := hr.2 k (by omega); first | exact absurd hr.1 (by assumption) | exact way_fail hz hd (by assumption) hr | (have := hr.2.1; omega))).symm, L7⟩
    refine WC.condN rfl ((Bool.eq_false_iff.2 c2)) ?_
    refine WC.sn ?_
    refine WC.drawS (fun w9 w' => Le w w' /\ Blk w' g6_3 81 (edgeV (xs.getD k noEdge)).toArray) [0, 1, 2, 3, 4, 5, 6, 7] mixed (by kernel_rfl) ?_
    intro w9 d9
    have L19 := L7.trans d9
    have f20 := (f17.le d9)
    refine ⟨⟨L19, f20⟩, ?_⟩
    have hok := edgeOk_T (show edgeOk (xs.getD k noEdge) = true by assumption)
    refine GS.any rfl rfl (.field0 fa81_0 rfl) rfl rfl rfl ?_
    refine GS.rd rfl rfl (fun w' hs => .loadB (v := .int .i64 ((xs.getD k noEdge).f)) na3 rfl hs.2 rfl) rfl rfl rfl ?_
    refine GS.any rfl rfl (.field0 fa81_1 rfl) rfl rfl rfl ?_
    refine GS.rd rfl rfl (fun w' hs => .loadB (v := .int .i64 ((xs.getD k noEdge).t)) na3 rfl hs.2 rfl) rfl rfl rfl ?_
    refine GS.any rfl rfl (.idxA1 (((xs.getD k noEdge).f).toNat) underlying288 sz4 rfl rfl (by omega) (by omega)) rfl rfl rfl ?_
    have f21 := (f18.le d9)
    refine GS.ef0 rfl rfl rfl rfl ?_
    refine Ef.store sz4 rfl rfl f21 (by simp only [List.size_toArray, List.length_map, List.length_set]; omega) rfl ?_
    intro w9_5_1 b9_5_1 h9_5_1
    have b9_5_1 : Blk w9_5_1 g3_0 288 ((bs.set (((xs.getD k noEdge).f).toNat) true).map Value.bool).toArray := bset b9_5_1
    have L22 := L19.tb h9_5_1 L1 hg3_0
    have f23 := (f20.ch h9_5_1 (fun h => (show g3_0 ≠ g6_3 from by have := f0_0.lt; omega) (Option.some.inj h)))
    refine ⟨⟨L22, f23⟩, ?_⟩
    refine GS.any rfl rfl (.idxA1 (((xs.getD k noEdge).t).toNat) underlying288 sz4 rfl rfl (by omega) (by omega)) rfl rfl rfl ?_
    refine GS.ef0 rfl rfl rfl rfl ?_
    refine Ef.store sz4 rfl rfl b9_5_1 (by simp only [List.size_toArray, List.length_map, List.length_set]; omega) rfl ?_
    intro w9_7_1 b9_7_1 h9_7_1
    have b9_7_1 : Blk w9_7_1 g3_0 288 (((bs.set (((xs.getD k noEdge).f).toNat) true).set (((xs.getD k noEdge).t).toNat) true).map Value.bool).toArray := bset b9_7_1
    have L24 := L22.tb h9_7_1 L1 hg3_0
    have f25 := (f23.ch h9_7_1 (fun h => (show g3_0 ≠ g6_3 from by have := f0_0.lt; omega) (Option.some.inj h)))
    refine ⟨⟨L24, f25⟩, ?_⟩
    refine GS.nil ?_
    refine E.blkN (E.thenN (WC.region ?_))
    refine W.a (.add rfl rfl (by omega)) ?_
    refine W.run 1 rfl (W.nil ?_)
    refine E.again (k + 1, ((bs.set (xs.getD k noEdge).f.toNat true).set (xs.getD k noEdge).t.toNat true)) (.cons rfl (.cons rfl (.cons rfl (.cons rfl (.cons rfl (.nil _)))))) ?_ ?_
    ·exact ⟨by omega, by simp [hb], way_next hz (by assumption) (by intro h0; omega) hd (by assumption), been_next hb (by assumption) hd, L24, by have := zl0; have := h6_3.size; have := h6_5.size; have := d7.size; have := h7_1.size; have := d9.size; have := h9_5_1.size; have := h9_7_1.size; omega, b9_7_1⟩
    first | omega | (simp only []; omega)
   refine G.a rfl (.dec (.move rfl) (congrArg not ((Bool.eq_false_iff.2 q7_3)))) ?_
   refine G.run 3 rfl ?_
   refine G.skipu rfl rfl rfl rfl rfl rfl ?_
   refine G.skipu rfl rfl rfl rfl rfl rfl ?_
   refine G.skipu rfl rfl rfl rfl rfl rfl ?_
   refine G.skipu rfl rfl rfl rfl rfl rfl ?_
   refine G.skipu rfl rfl rfl rfl rfl rfl ?_
   refine G.skipu rfl rfl rfl rfl rfl rfl ?_
   refine G.skipu rfl rfl rfl rfl rfl rfl ?_
   refine G.skipu rfl rfl rfl rfl rfl rfl ?_
   refine G.skipu rfl rfl rfl rfl rfl rfl ?_
   refine G.run 8 rfl (G.nil (E.thenN (WC.condT rfl (WC.sr (W.run 1 rfl (W.nx (WC.ret (E.thenR (E.blkR (E.thenR (E.thenR (E.blkR (E.thenR ?_)))))))))))))
   refine E.retG1 rfl rfl ?_
   exact ⟨rB (decide_eq_false (fun hr => by have hr := hr.2 k (by omega); first | exact absurd hr.1 (by assumption) | exact way_fail hz hd (by assumption) hr | (have := hr.2.1; omega))).symm, L7⟩
  refine WC.condN rfl (decide_eq_false c1) ?_
  refine WC.exit (E.thenX (E.thenX (E.blkH (E.thenN (WC.sr (W.run 1 rfl (W.nx (WC.ret ?_))))))))
  refine E.retG1 rfl rfl ?_
  exact ⟨rB (decide_eq_true ⟨by have := inB_T (by assumption : inB (n : Int) 1 8 = true); omega, fun j hj => hz j (by omega)⟩).symm, Ll0⟩
 refine WC.condY rfl (congrArg not ((Bool.eq_false_iff.2 c0))) ?_
 refine WC.sr (W.run 1 rfl (W.nx (WC.ret (E.thenR ?_))))
 refine E.retG1 rfl rfl ?_
 exact ⟨rB (decide_eq_false (fun hr => by have := inB_F (Bool.eq_false_iff.2 (by assumption : ¬ inB (n : Int) 1 8 = true)); have := hr.1; omega)).symm, L1⟩
end Go.Proofs.YtocheaahlpiajaaGreatDoor

namespace Go.Proofs.YtocheaahlpiajaaGreatDoor
open Tryz
open Go Go.Sx Go.Hsp Go.Num Go.Osp Go.Gsp
set_option maxRecDepth 20000
theorem cost_ok (a x : Int) {A : Option Addr} {n c : Nat} {xs : List Gsp.Edge} (w : World) (hV : Vec w edgeV 9 A n xs) (hn : n <= 1000000) : Calls prog 38 #[.slice A n c, .int .i64 (a), .int .i64 (x)] w fun r w' => ∃ A1 c1 A2 c2, r = .returned (.tuple #[.slice A1 (costG xs a x).1.length c1, .slice A2 (costG xs a x).2.1.length c2, .int .i64 (costG xs a x).2.2]) /\ OVec w' w.heap.size 3 iv 1 A1 (costG xs a x).1.length c1 (costG xs a x).1 /\ OVec w' w.heap.size 3 iv 1 A2 (costG xs a x).2.1.length c2 (costG xs a x).2.1 /\ Le w w' := by
 have hl := hV.1
 refine enter func38 rfl rfl ?_
 have L0 := Le.refl w
 refine WC.sr (W.run 3 rfl (W.nx (WC.seq (WC.sr (W.run 1 rfl ?_)))))
 refine W.cl go101 rfl rfl (gway_ok w (hV.le L0) (by omega)) ?_
 rintro _ w1_1 ⟨rfl, h1_1⟩
 have L1 := L0.trans h1_1
 refine W.run 1 rfl (W.nx ?_)
 by_cases c0 : (wayG xs) = true
 ·refine WC.condN rfl (congrArg not (c0)) ?_
  refine WC.sn (WC.seq (WC.sr (W.run 1 rfl ?_)))
  refine W.cl go102 rfl rfl (gin_ok a 1 1125899906842624 w1_1) ?_
  rintro _ w3_1 ⟨rfl, h3_1⟩
  have L2 := L1.trans h3_1
  refine W.run 1 rfl ?_
  by_cases q3_3 : (inB a 1 1125899906842624) = true
  ·refine W.a (.dec (.move rfl) (congrArg not (q3_3))) ?_
   refine W.run 1 rfl ?_
   refine W.efg rfl rfl rfl (rfl) rfl rfl ?_
   refine Ef.call go102 rfl rfl (gin_ok x 1 1048576 w3_1) ?_
   rintro _ w3_5 ⟨rfl, h3_5⟩
   refine ⟨_, rfl, ?_⟩
   have L3 := L2.trans h3_5
   refine W.run 2 rfl (W.nx ?_)
   by_cases c1 : (inB x 1 1048576) = true
   ·refine WC.condN rfl (congrArg not (c1)) ?_
    have hwl := wayG_len (by assumption : wayG xs = true)
    have ha1 := inB_T (by assumption : inB a 1 1125899906842624 = true)
    have hx1 := inB_T (by assumption : inB x 1 1048576 = true)
    refine WC.sn ?_
    refine WC.cut (ι := Nat × Nat) (fun ⟨g1, g2⟩ => [(0, .slice A n c), (1, .int .i64 (a)), (2, .int .i64 (x)), (9, .slice (some ⟨g1, 0, none⟩) n n), (10, .slice (some ⟨g2, 0, none⟩) n n)]) (fun ⟨g1, g2⟩ wc6 => Le w wc6 /\ w3_5.heap.size <= wc6.heap.size /\ OVec wc6 w3_5.heap.size 3 iv 1 (some ⟨g1, 0, none⟩) n n (List.replicate n 0) /\ OVec wc6 w3_5.heap.size 3 iv 1 (some ⟨g2, 0, none⟩) n n (List.replicate n 0) /\ Apart (some ⟨g1, 0, none⟩) n (some ⟨g2, 0, none⟩) n) ?_ ?_
    ·refine WC.drawT (fun o => (app o [0, 1, 3, 4] (.br (app o [2, 6, 5, 7] .nil) (app o [5, 2, 6, 7] .nil)))) mixed (by kernel_rfl) ?_
     intro w5 d5
     have L4 := L3.trans d5
     refine GT.app ?_
     refine G.run 1 rfl ?_
     refine G.r rfl (.len underlying32 rfl) ?_
     refine G.run 1 rfl ?_
     refine G.r rfl (.len underlying32 rfl) ?_
     refine G.nil ?_
     refine GT.br ?_ ?_
     ·refine GT.last ?_
      refine G.ef rfl rfl rfl rfl rfl ?_
      refine Ef.vmake 0 n underlying23 el3 iv_row rfl rfl (rfl) rfl (rfl) (by omega) (by unfold maxLen; omega) ?_
      intro g5_2 w5_2 hg5_2 o5_2 h5_2
      refine ⟨fun _ => h5_2, ?_⟩
      have L5 := L4.trans h5_2
      refine G.run 1 rfl ?_
      refine G.ef rfl rfl rfl rfl rfl ?_
      refine Ef.vmake 0 n underlying23 el3 iv_row rfl rfl (rfl) rfl (rfl) (by omega) (by unfold maxLen; omega) ?_
      intro g5_5 w5_5 hg5_5 o5_5 h5_5
      refine ⟨fun _ => h5_5, ?_⟩
      have L6 := L5.trans h5_5
      refine G.run 1 rfl (G.nil ?_)
      have f7 := (o5_2.le h5_5)
      refine E.meet (g5_2, g5_5) (.cons rfl (.cons rfl (.cons rfl (.cons rfl (.cons rfl (.nil _)))))) ?_
      exact ⟨L6, by have := d5.size; have := h5_2.size; have := h5_5.size; omega, (f7.mono (by have := d5.size; omega)), (o5_5.mono (by have := d5.size; have := h5_2.size; omega)), (fun q h1 h2 => by have := (o5_2.row h1).2; have := (o5_5.row h2).1; omega)⟩
     refine GT.last ?_
     refine G.ef rfl rfl rfl rfl rfl ?_
     refine Ef.vmake 0 n underlying23 el3 iv_row rfl rfl (rfl) rfl (rfl) (by omega) (by unfold maxLen; omega) ?_
     intro g5_5_1 w5_5_1 hg5_5_1 o5_5_1 h5_5_1
     refine ⟨fun _ => h5_5_1, ?_⟩
     have L8 := L4.trans h5_5_1
     refine G.ef rfl rfl rfl rfl rfl ?_
     refine Ef.vmake 0 n underlying23 el3 iv_row rfl rfl (rfl) rfl (rfl) (by omega) (by unfold maxLen; omega) ?_
     intro g5_2_1 w5_2_1 hg5_2_1 o5_2_1 h5_2_1
     refine ⟨fun _ => h5_2_1, ?_⟩
     have L9 := L8.trans h5_2_1
     refine G.run 2 rfl (G.nil ?_)
     have f10 := (o5_5_1.le h5_2_1)
     refine E.meet (g5_2_1, g5_5_1) (.cons rfl (.cons rfl (.cons rfl (.cons rfl (.cons rfl (.nil _)))))) ?_
     exact ⟨L9, by have := d5.size; have := h5_5_1.size; have := h5_2_1.size; omega, (o5_2_1.mono (by have := d5.size; have := h5_5_1.size; omega)), (f10.mono (by have := d5.size; omega)), (Apart.symm (fun q h1 h2 => by have := (o5_5_1.row h1).2; have := (o5_2_1.row h2).1; omega))⟩
    rintro ⟨g1, g2⟩ wc6 ⟨Lc1, sc1, o1_9, o1_10, ap1_9_10⟩
    have lc1_2 : w3_5.heap.size <= wc6.heap.size := by have := sc1; omega
    have lc1_3 : w3_5.heap.size <= wc6.heap.size := by have := sc1; omega
    refine WC.seq (WC.sr (W.run 1 rfl ?_))
    refine W.r (.len underlying32 rfl) ?_
    refine W.a (.sub rfl rfl (by omega)) ?_
    refine W.run 1 rfl (W.nx (WC.block ?_))
    refine WC.loop (ι := Nat × Int × Int × (Option (Int × Int)) × (List (Int × Int))) (fun ⟨j, am, ex, nx, l⟩ => [(0, .slice A n c), (1, .int .i64 (am)), (2, .int .i64 (ex)), (9, .slice (some ⟨g1, 0, none⟩) n n), (10, .slice (some ⟨g2, 0, none⟩) n n), (11, .int .i64 (((j : Nat) : Int) - 1))]) (fun ⟨j, am, ex, nx, l⟩ wl0 => (j <= n) /\ (l.length = n - j) /\ (costF a x (xs.drop j) = .ok (nx, l)) /\ (0 < j -> nx = some (am, ex) /\ 0 <= am /\ am <= 1125899906842624 /\ 0 <= ex /\ ex <= 2097152) /\ Le w wl0 /\ wc6.heap.size <= wl0.heap.size /\ OVec wl0 w3_5.heap.size 3 iv 1 (some ⟨g1, 0, none⟩) n n (List.replicate j 0 ++ l.map Prod.fst) /\ OVec wl0 w3_5.heap.size 3 iv 1 (some ⟨g2, 0, none⟩) n n (List.replicate j 0 ++ l.map Prod.snd)) (fun ⟨j, am, ex, nx, l⟩ => j) (n, a, x, some (a, x), []) ?_ ?_ ?_
    ·exact .cons rfl (.cons rfl (.cons rfl (.cons rfl (.cons rfl (.cons rfl (.nil _))))))
    ·exact ⟨Nat.le_refl _, by simp, by rw [List.drop_of_length_le (by omega)]; rfl, fun _ => ⟨rfl, by omega, by omega, by omega, by omega⟩, Lc1, Nat.le_refl _, (o1_9).cast rfl (by simp), (o1_10).cast rfl (by simp)⟩
    rintro ⟨j, am, ex, nx, l⟩ wl0 ⟨hj, hll, hF, hnx, Ll0, zl0, f0_0, f0_1⟩
    have lb0_2 : w3_5.heap.size <= wl0.heap.size := Nat.le_trans lc1_3 (by omega)
    have lb0_3 : w3_5.heap.size <= wl0.heap.size := Nat.le_trans lc1_3 (by omega)
    refine WC.seq (WC.sr (W.run 2 rfl (W.nx ?_)))
    by_cases c2 : 0 <= (((j : Nat) : Int) - 1)
    ·refine WC.condY rfl (decide_eq_true c2) ?_
     obtain ⟨rfl, ham0, ham1, hex0, hex1⟩ := hnx (by omega)
     have hok := edgeOk_T (wayG_at (by assumption : wayG xs = true) (i := j - 1) (by omega)).1
     have hpk := polOk_T hok.2.2.2.2.2
     have hpI := polI_ok hok.2.2.2.2.2
     refine WC.sn (WC.seq (WC.block (WC.sr (W.run 2 rfl ?_))))
     refine W.a (.idxS ((j - 1)) underlying32 sz81 rfl rfl (hV.isSome edgeV_row (by omega)) (by omega) (by omega)) ?_
     refine W.r (.vload ag81 rfl (hV.le Ll0) edgeV_row (getS xs noEdge (by omega))) ?_
     refine W.ef rfl rfl rfl ?_
     refine Ef.allocA z81 ?_
     intro g9_4 w9_4 hg9_4 b9_4 h9_4
     have L11 := Ll0.trans h9_4
     have b9_4 : Blk w9_4 g9_4 81 (edgeV noEdge).toArray := b9_4
     refine W.ef0 rfl rfl ?_
     refine Ef.storeAll sz81 (by rfl) rfl rfl b9_4 (by simp only [List.size_toArray, edgeV_row.len]) (edgeV_row.one (xs.getD (j - 1) noEdge)) ?_
     intro w9_5 b9_5 h9_5
     have b9_5 : Blk w9_5 g9_4 81 (edgeV (xs.getD (j - 1) noEdge)).toArray := b9_5
     have L12 := L11.tb h9_5 Ll0 hg9_4
     refine W.nx (WC.seq (WC.block (WC.sr (W.run 1 rfl ?_))))
     refine W.a (.field0 fa81_4 rfl) ?_
     refine W.a (.field2 fa79_3 rfl) ?_
     refine W.r (.loadB (v := .int .i64 ((xs.getD (j - 1) noEdge).pol.l)) na3 rfl b9_5 rfl) ?_
     refine W.a (.field0 fa81_4 rfl) ?_
     refine W.a (.field2 fa79_4 rfl) ?_
     refine W.r (.loadB (v := .int .i64 ((xs.getD (j - 1) noEdge).pol.m)) na3 rfl b9_5 rfl) ?_
     refine W.a (.field0 fa81_3 rfl) ?_
     refine W.r (.loadB (v := .int .i64 ((xs.getD (j - 1) noEdge).r)) na3 rfl b9_5 rfl) ?_
     refine W.r (.min2 rfl rfl) ?_
     refine W.cl go102 rfl rfl (gin_ok am ((xs.getD (j - 1) noEdge).pol.l) (min ((xs.getD (j - 1) noEdge).pol.m) ((xs.getD (j - 1) noEdge).r)) w9_5) ?_
     rintro _ w10_10 ⟨rfl, h10_10⟩
     have L13 := L12.trans h10_10
     refine W.run 2 rfl (W.nx ?_)
     by_cases c3 : (inB am ((xs.getD (j - 1) noEdge).pol.l) (min ((xs.getD (j - 1) noEdge).pol.m) ((xs.getD (j - 1) noEdge).r))) = true
     ·refine WC.condN rfl (congrArg not (c3)) ?_
      refine WC.sr (W.run 3 rfl (W.nx ?_))
      by_cases c4 : 1048576 < ex
      ·refine WC.condY rfl (decide_eq_true c4) ?_
       refine WC.sr (W.run 3 rfl (W.nx (WC.ret (E.blkR (E.thenR (E.blkR (E.thenR (E.thenR (E.blkR (E.thenR ?_))))))))))
       refine E.retG3 rfl rfl rfl rfl ?_
       have hc : costG xs a x = ([], [], 16) := costG_er (by assumption) (by assumption) (by assumption) (costF_late (by omega) (by omega) hF (by assumption) (by omega))
       exact ⟨none, 0, none, 0, by rw [hc]; rfl, by rw [hc]; exact OVec.nil _ _ _ _ _ _, by rw [hc]; exact OVec.nil _ _ _ _ _ _, L13⟩
      refine WC.condN rfl (decide_eq_false c4) ?_
      refine WC.skip (E.blkN (E.thenN (WC.sr (W.run 6 rfl ?_))))
      refine W.a (.idxS ((j - 1)) underlying23 sz3 rfl rfl (o1_9.vec.isSome iv_row (by omega)) (by omega) (by omega)) ?_
      have f14 := (((f0_0.le h9_4).ch h9_5 (fun q hq => by cases hq; exact (fun he => by have := (f0_0.row he).2; omega))).le h10_10)
      refine W.ef0 rfl rfl ?_
      refine Ef.vset (j := (j - 1)) (o := 0) am sz3 rfl (by omega) rfl f14 iv_row (getS (List.replicate j 0 ++ l.map Prod.fst) 0 (by simp; omega)) (by decide) rfl rfl ?_
      intro w14_7 o14_7 h14_7
      have L15 := L13.then_ h14_7 (fun q hq => Nat.le_trans L3.size (f14.row hq).1)
      have o16 := o14_7.cast (m' := n) (ys := (List.replicate (j - 1) 0 ++ am :: l.map Prod.fst)) (rfl) (rep_set _ _ _ (by omega))
      refine W.a (.idxS ((j - 1)) underlying23 sz3 rfl rfl (o1_10.vec.isSome iv_row (by omega)) (by omega) (by omega)) ?_
      have f17 := ((((f0_1.le h9_4).ch h9_5 (fun q hq => by cases hq; exact (fun he => by have := (f0_1.row he).2; omega))).le h10_10).ch h14_7 (ap1_9_10))
      refine W.ef0 rfl rfl ?_
      refine Ef.vset (j := (j - 1)) (o := 0) ex sz3 rfl (by omega) rfl f17 iv_row (getS (List.replicate j 0 ++ l.map Prod.snd) 0 (by simp; omega)) (by decide) rfl rfl ?_
      intro w14_9 o14_9 h14_9
      have L18 := L15.then_ h14_9 (fun q hq => Nat.le_trans L3.size (f17.row hq).1)
      have o19 := o14_9.cast (m' := n) (ys := (List.replicate (j - 1) 0 ++ ex :: l.map Prod.snd)) (rfl) (rep_set _ _ _ (by omega))
      refine W.nx (WC.sr ?_)
      refine W.a (.field0 fa81_4 rfl) ?_
      have f20 := (((b9_5.le h10_10).ch h14_7 (fun he => by have := (f0_0.row he).2; omega)).ch h14_9 (fun he => by have := (f0_1.row he).2; omega))
      refine W.r (.bpart (polV ((xs.getD (j - 1) noEdge).pol)) ag79 rfl (by decide) rfl f20 rfl) ?_
      refine W.run 1 rfl ?_
      refine W.cl go103 rfl rfl (hfee_ok ((xs.getD (j - 1) noEdge).pol) am hpI w14_9) ?_
      rintro _ w15_3 ⟨rfl, h15_3⟩
      have L21 := L18.trans h15_3
      refine W.run 5 rfl (W.nx (WC.sr (W.run 2 rfl ?_)))
      refine W.cl go104 rfl rfl (nadd_ok am ((feeG ((xs.getD (j - 1) noEdge).pol) am).1) w15_3) ?_
      rintro _ w16_2 ⟨rfl, h16_2⟩
      have L22 := L21.trans h16_2
      refine W.run 5 rfl (W.nx (WC.seq (WC.sr (W.run 2 rfl ?_))))
      by_cases q17_2 : 0 < (((j : Nat) : Int) - 1)
      ·refine W.dt q17_2 rfl rfl (W.run 2 rfl ?_)
       by_cases q17_5 : ((feeG ((xs.getD (j - 1) noEdge).pol) am).2) = true
       ·refine W.g (Any.rd (.dec (.move rfl) (congrArg not (q17_5))) _) ?_
        refine W.run 2 rfl ?_
        refine W.g (Any.rd (.pickF rfl rfl rfl) _) ?_
        refine W.run 1 rfl (W.nx ?_)
        by_cases c5 : ((addC am ((feeG ((xs.getD (j - 1) noEdge).pol) am).1)).2) = true
        ·refine WC.condN rfl (congrArg not (c5)) ?_
         refine WC.sn ?_
         refine WC.draw [0, 1, 2, 3, 4, 5, 6, 7] mixed (by kernel_rfl) ?_
         intro w19 d19
         have L23 := L22.trans d19
         refine G.run 2 rfl ?_
         refine G.a rfl (.field0 fa81_4 rfl) ?_
         refine G.a rfl (.field2 fa79_2 rfl) ?_
         have f24 := (f20.le (h15_3.trans (h16_2.trans d19)))
         refine G.r rfl (.loadB (v := .int .i64 ((xs.getD (j - 1) noEdge).pol.d)) na3 rfl f24 rfl) ?_
         refine G.a rfl (.add rfl rfl (by omega)) ?_
         refine G.run 2 rfl (G.nil (E.blkN (E.thenN (WC.region (W.run 1 rfl ?_)))))
         refine W.a (.sub rfl rfl (by omega)) ?_
         refine W.run 1 rfl (W.nil ?_)
         have f25 := ((o16.ch h14_9 ((Apart.symm ap1_9_10))).le (h15_3.trans (h16_2.trans d19)))
         have f26 := (o19.le (h15_3.trans (h16_2.trans d19)))
         refine E.again (j - 1, (addC am (feeG (xs.getD (j - 1) noEdge).pol am).1).1, ex + (xs.getD (j - 1) noEdge).pol.d, nextC (xs.getD (j - 1) noEdge) am ex, (am, ex) :: l) (.cons rfl (.cons rfl (.cons rfl (.cons rfl (.cons rfl (.cons' rfl (int_eq (by omega)) (.nil _))))))) ?_ ?_
         ·exact ⟨by omega, by simp; omega, costF_step (by omega) (by omega) hF (by assumption) (by omega), fun h0 => by first | (exfalso; omega) | (have hv := addC_val (by assumption : (addC am (feeG (xs.getD (j - 1) noEdge).pol am).1).2 = true); rw [hv.1]; exact ⟨by rw [nextC_some (by assumption) (by assumption), hv.1], by omega, by omega, by omega, by omega⟩), L23, by have := zl0; have := h9_4.size; have := h9_5.size; have := h10_10.size; have := h14_7.size; have := h14_9.size; have := h15_3.size; have := h16_2.size; have := d19.size; omega, f25, f26⟩
         first | omega | (simp only []; omega)
        refine WC.condY rfl (congrArg not ((Bool.eq_false_iff.2 c5))) ?_
        refine WC.sr (W.run 3 rfl (W.nx (WC.ret (E.thenR (E.blkR (E.thenR (E.thenR (E.blkR (E.thenR ?_)))))))))
        refine E.retG3 rfl rfl rfl rfl ?_
        have hc : costG xs a x = ([], [], 6) := costG_er (by assumption) (by assumption) (by assumption) (by first | exact costF_six (by omega) (by omega) hF (by assumption) | exact costF_none (j := j - 1) (by omega) (by omega) (by rw [costF_step (by omega) (by omega) hF (by assumption) (by omega), nextC_none (by first | exact .inl (by assumption) | exact .inr (by assumption))]))
        exact ⟨none, 0, none, 0, by rw [hc]; rfl, by rw [hc]; exact OVec.nil _ _ _ _ _ _, by rw [hc]; exact OVec.nil _ _ _ _ _ _, L22⟩
       refine W.g (Any.rd (.dec (.move rfl) (congrArg not ((Bool.eq_false_iff.2 q17_5)))) _) ?_
       refine W.run 2 rfl ?_
       refine W.g (Any.rd (.pickT rfl rfl rfl) _) ?_
       refine W.run 1 rfl (W.nx (WC.condT rfl (WC.sr (W.run 3 rfl (W.nx (WC.ret (E.thenR (E.blkR (E.thenR (E.thenR (E.blkR (E.thenR ?_))))))))))))
       refine E.retG3 rfl rfl rfl rfl ?_
       have hc : costG xs a x = ([], [], 6) := costG_er (by assumption) (by assumption) (by assumption) (by first | exact costF_six (by omega) (by omega) hF (by assumption) | exact costF_none (j := j - 1) (by omega) (by omega) (by rw [costF_step (by omega) (by omega) hF (by assumption) (by omega), nextC_none (by first | exact .inl (by assumption) | exact .inr (by assumption))]))
       exact ⟨none, 0, none, 0, by rw [hc]; rfl, by rw [hc]; exact OVec.nil _ _ _ _ _ _, by rw [hc]; exact OVec.nil _ _ _ _ _ _, L22⟩
      refine W.df q17_2 rfl rfl (W.run 3 rfl ?_)
      refine W.skipu rfl rfl rfl rfl rfl ?_
      refine W.skipu rfl rfl rfl rfl rfl ?_
      refine W.run 2 rfl (W.nx (WC.condF rfl (WC.sn ?_)))
      refine WC.draw [0, 1, 2, 3, 4, 5, 6, 7] mixed (by kernel_rfl) ?_
      intro w19 d19
      have L27 := L22.trans d19
      refine G.run 2 rfl ?_
      refine G.a rfl (.field0 fa81_4 rfl) ?_
      refine G.a rfl (.field2 fa79_2 rfl) ?_
      have f28 := (f20.le (h15_3.trans (h16_2.trans d19)))
      refine G.r rfl (.loadB (v := .int .i64 ((xs.getD (j - 1) noEdge).pol.d)) na3 rfl f28 rfl) ?_
      refine G.a rfl (.add rfl rfl (by omega)) ?_
      refine G.run 2 rfl (G.nil (E.blkN (E.thenN (WC.region (W.run 1 rfl ?_)))))
      refine W.a (.sub rfl rfl (by omega)) ?_
      refine W.run 1 rfl (W.nil ?_)
      have f29 := ((o16.ch h14_9 ((Apart.symm ap1_9_10))).le (h15_3.trans (h16_2.trans d19)))
      have f30 := (o19.le (h15_3.trans (h16_2.trans d19)))
      refine E.again (j - 1, (addC am (feeG (xs.getD (j - 1) noEdge).pol am).1).1, ex + (xs.getD (j - 1) noEdge).pol.d, nextC (xs.getD (j - 1) noEdge) am ex, (am, ex) :: l) (.cons rfl (.cons rfl (.cons rfl (.cons rfl (.cons rfl (.cons' rfl (int_eq (by omega)) (.nil _))))))) ?_ ?_
      ·exact ⟨by omega, by simp; omega, costF_step (by omega) (by omega) hF (by assumption) (by omega), fun h0 => by first | (exfalso; omega) | (have hv := addC_val (by assumption : (addC am (feeG (xs.getD (j - 1) noEdge).pol am).1).2 = true); rw [hv.1]; exact ⟨by rw [nextC_some (by assumption) (by assumption), hv.1], by omega, by omega, by omega, by omega⟩), L27, by have := zl0; have := h9_4.size; have := h9_5.size; have := h10_10.size; have := h14_7.size; have := h14_9.size; have := h15_3.size; have := h16_2.size; have := d19.size; omega, f29, f30⟩
      first | omega | (simp only []; omega)
     refine WC.condY rfl (congrArg not ((Bool.eq_false_iff.2 c3))) ?_
     refine WC.sr (W.run 3 rfl (W.nx (WC.ret (E.blkR (E.thenR (E.blkR (E.thenR (E.thenR (E.blkR (E.thenR ?_))))))))))
     refine E.retG3 rfl rfl rfl rfl ?_
     have hc : costG xs a x = ([], [], 6) := costG_er (by assumption) (by assumption) (by assumption) (by first | exact costF_six (by omega) (by omega) hF (by assumption) | exact costF_none (j := j - 1) (by omega) (by omega) (by rw [costF_step (by omega) (by omega) hF (by assumption) (by omega), nextC_none (by first | exact .inl (by assumption) | exact .inr (by assumption))]))
     exact ⟨none, 0, none, 0, by rw [hc]; rfl, by rw [hc]; exact OVec.nil _ _ _ _ _ _, by rw [hc]; exact OVec.nil _ _ _ _ _ _, L13⟩
    refine WC.condN rfl (decide_eq_false c2) ?_
    have hj0 : j = 0 := by omega
    refine WC.exit (E.thenX (E.thenX (E.blkH (E.thenN (WC.sr (W.run 5 rfl (W.nx (WC.ret ?_))))))))
    refine E.retG3 rfl rfl rfl rfl ?_
    have hc := costG_ok (by assumption) (by assumption) (by assumption) (show costF a x xs = .ok (nx, l) by rw [show j = 0 by omega] at hF; exact hF)
    subst hj0
    exact ⟨some ⟨g1, 0, none⟩, n, some ⟨g2, 0, none⟩, n, by rw [hc]; simp [show l.length = n by omega], by rw [hc]; exact ((f0_0.mono L3.size)).cast (by simp; omega) (by simp), by rw [hc]; exact ((f0_1.mono L3.size)).cast (by simp; omega) (by simp), Ll0⟩
   refine WC.condY rfl (congrArg not ((Bool.eq_false_iff.2 c1))) ?_
   refine WC.sr (W.run 3 rfl (W.nx (WC.ret (E.thenR ?_))))
   refine E.retG3 rfl rfl rfl rfl ?_
   have hc : costG xs a x = ([], [], 1) := costG_arg (by assumption) (by first | exact .inl (by assumption) | exact .inr (by assumption))
   exact ⟨none, 0, none, 0, by rw [hc]; rfl, by rw [hc]; exact OVec.nil _ _ _ _ _ _, by rw [hc]; exact OVec.nil _ _ _ _ _ _, L3⟩
  refine W.a (.dec (.move rfl) (congrArg not ((Bool.eq_false_iff.2 q3_3)))) ?_
  refine W.run 4 rfl (W.nx (WC.condT rfl (WC.sr (W.run 3 rfl (W.nx (WC.ret (E.thenR ?_)))))))
  refine E.retG3 rfl rfl rfl rfl ?_
  have hc : costG xs a x = ([], [], 1) := costG_arg (by assumption) (by first | exact .inl (by assumption) | exact .inr (by assumption))
  exact ⟨none, 0, none, 0, by rw [hc]; rfl, by rw [hc]; exact OVec.nil _ _ _ _ _ _, by rw [hc]; exact OVec.nil _ _ _ _ _ _, L2⟩
 refine WC.condY rfl (congrArg not ((Bool.eq_false_iff.2 c0))) ?_
 refine WC.sr (W.run 3 rfl (W.nx (WC.ret (E.thenR ?_))))
 refine E.retG3 rfl rfl rfl rfl ?_
 have hc : costG xs a x = ([], [], 19) := costG_way (by assumption)
 exact ⟨none, 0, none, 0, by rw [hc]; rfl, by rw [hc]; exact OVec.nil _ _ _ _ _ _, by rw [hc]; exact OVec.nil _ _ _ _ _ _, L1⟩
end Go.Proofs.YtocheaahlpiajaaGreatDoor

namespace Go.Sx
open Go Go.RowKit
theorem E.retCT {P : Program} {env : Env} {n : Nat} {w : World} {fn : Func} {R : Ending -> World -> Prop} {t1 ty1 t2 s1 : Nat} {g1 : Nat} {b1 : TypeId} {cs1 : Array Value} {v2 : Value} (hr : fn.results = #[.cell t1 ty1, .tmp t2])
    (h1 : look env t1 = some (.pointer (some ⟨g1, 0, none⟩))) (h2 : look env t2 = some v2) (hB1 : Blk w g1 b1 cs1) (ha1 : IsAgg P ty1 s1) (hs1 : cs1.size = s1) (h : R (.returned (.tuple #[.agg cs1, v2])) w) : E (bodyPost P fn R) n .ret env w := fun a ha => by
  subst hs1
  obtain ⟨d1, u1, u2, u3⟩ := ha1
  have l1 := run_loadVar_row (P := P) w g1 b1 ty1 cs1 (0, 0) d1 hB1 u1 (by cases d1 <;> simp_all) u3
  refine bodyPost_ret (v := .tuple #[.agg cs1, v2]) ?_ ha.1 h
  simp [results, hr, ha.2.2 t1 _ h1, ha.2.2 t2 _ h2, asAddr, l1]
end Go.Sx
namespace Go.Proofs.YtocheaahlpiajaaGreatDoor
open Tryz
open Go Go.Sx Go.Hsp Go.Num Go.Osp
set_option maxRecDepth 20000
theorem made_pv (k : Nat) : madeCells (Value.int .u64 0).cells (k * 1) = ((List.replicate k 0).map pv).toArray := by
  apply Array.ext'
  apply List.ext_getElem (by simp [madeCells])
  intro i h1 h2
  simp [madeCells, Value.cells, Nat.mod_one]
  rfl
theorem set_pv (l : List Nat) (i x : Nat) : ((l.map pv).toArray).setIfInBounds i (pv x) = ((l.set i x).map pv).toArray := by simp [List.map_set]
theorem getpB (ks : List Nat) {k : Nat} (h : k < ks.length) : (ks.map pv).toArray[k]? = some (pv (ks.getD k 0)) := by simp [h, List.getD]
theorem addP_lt (a b : Nat) : addP a b < 18446744073709551616 := Nat.lt_trans (Nat.mod_lt _ (by decide)) (by decide : M < 18446744073709551616)
theorem fromP_lt (p : Nat) (hp : p < 18446744073709551616) : ∀ l, ∀ x ∈ fromP p l, x < 18446744073709551616
  | [], x, hx => by simp [fromP] at hx; subst hx; exact hp
  | b :: l, x, hx => by
    rw [fromP, List.mem_cons] at hx
    rcases hx with rfl | hx
    · exact addP_lt _ _
    · exact fromP_lt p hp l x hx
theorem mixP_lt (p : Nat) (hp : p < 18446744073709551616) (l : List Nat) (m i : Nat) : (List.replicate m 0 ++ fromP p l).getD i 0 < 18446744073709551616 := by
  refine getD_lt (fun x hx => ?_) (by decide) i
  rcases List.mem_append.1 hx with hx | hx
  · rw [(List.mem_replicate.1 hx).2]; decide
  · exact fromP_lt p hp l x hx
theorem one2s {A B : Option Addr} {a b a' b' : Nat} : ∀ v ∈ [Value.slice A a a', Value.slice B b b'], v.oneCell' = true := fun v hv => by
  simp at hv; rcases hv with rfl | rfl <;> rfl
theorem fneg_ok (a : Nat) (w : World) : Calls prog 149 #[.int .u64 ((a : Nat) : Int)] w fun e w' => e = .returned (.int .u64 ((negS a : Nat) : Int)) /\ Le w w' := by
 refine enter func149 rfl rfl ?_
 have L0 := Le.refl w
 refine WC.sr (W.run 1 rfl (W.nx (WC.sr (W.run 1 rfl ?_))))
 refine W.cl go227 rfl rfl (of_ok a w) ?_
 rintro _ w1_1 ⟨rfl, h1_1⟩
 have L1_1 := L0.trans h1_1
 have hlt : a % q < 2305843009213688669 := Nat.mod_lt _ (by decide)
 refine W.a (.subN (2305843009213688669) (a % q) (2305843009213688669 - a % q) rfl rfl rfl rfl (by omega) (by omega)) ?_
 refine W.a (.remN (2305843009213688669 - a % q) (2305843009213688669) ((2305843009213688669 - a % q) % 2305843009213688669) rfl rfl rfl rfl (by decide) (rfl)) ?_
 refine W.run 1 rfl (W.nx (WC.ret ?_))
 refine E.ret1 rfl rfl ?_
 exact ⟨rfl, L1_1⟩

theorem fsub_ok (a b : Nat) (w : World) : Calls prog 60 #[.int .u64 ((a : Nat) : Int), .int .u64 ((b : Nat) : Int)] w fun e w' => e = .returned (.int .u64 ((addS a (negS b) : Nat) : Int)) /\ Le w w' := by
 refine enter func60 rfl rfl ?_
 have L0 := Le.refl w
 refine WC.sr (W.run 1 rfl (W.nx (WC.sr (W.run 2 rfl ?_))))
 refine W.cl go149 rfl rfl (fneg_ok b w) ?_
 rintro _ w1_2 ⟨rfl, h1_2⟩
 have L1_2 := L0.trans h1_2
 refine W.cl go148 rfl rfl (fadd_ok a _ w1_2) ?_
 rintro _ w1_3 ⟨rfl, h1_3⟩
 have L1_3 := L1_2.trans h1_3
 refine W.run 1 rfl (W.nx (WC.ret ?_))
 refine E.ret1 rfl rfl ?_
 exact ⟨rfl, L1_3⟩

theorem psum_ok {A : Option Addr} {n c : Nat} {xs : List Nat} (w : World) (hS : Sl w 1 A n (xs.map pv)) (hn : n <= 1000000) : Calls prog 73 #[.slice A n c] w fun e w' => e = .returned (.int .u64 ((sumS xs : Nat) : Int)) /\ Le w w' := by
 have hl := hS.1
 rw [List.length_map, Nat.mul_one] at hl
 refine enter func73 rfl rfl ?_
 have L0 := Le.refl w
 refine WC.sr (W.run 1 rfl (W.nx (WC.sr (W.run 1 rfl (W.nx (WC.seq (WC.sr (W.run 1 rfl ?_))))))))
 refine W.r (.len underlying35 rfl) ?_
 refine W.run 1 rfl (W.nx (WC.block ?_))
 refine WC.loop (ι := Nat) (fun k => [(3, .int .u64 ((sumS (xs.take k) : Nat) : Int)), (6, .slice A n c), (7, .int .i64 (n : Int)), (8, .int .i64 (k : Int))]) (fun k wl => k <= n /\ Le w wl) (fun k => n - k) 0 ?_ ?_ ?_
 ·exact .cons rfl (.cons rfl (.cons rfl (.cons rfl (.nil _))))
 ·exact ⟨Nat.zero_le _, L0⟩
 rintro k wl ⟨hk, Ll⟩
 refine WC.sr (W.run 1 rfl (W.nx (WC.seq ?_)))
 refine WC.cond rfl (fun c0 => ?_) (fun c0 => ?_)
 ·have hx := getn xs (show k < xs.length by omega)
  refine WC.sn (WC.seq (WC.block (WC.sr ?_)))
  refine W.a (.idxS1 (k) underlying35 sz28 rfl rfl (hS.isSome (j := k) (by omega) (by decide)) (rfl) (by omega)) ?_
  refine W.r (.loadS na28 rfl (hS.le Ll) (getp xs (by omega))) ?_
  refine W.run 1 rfl (W.nx (WC.region (W.run 2 rfl ?_)))
  refine W.cl go148 rfl rfl (fadd_ok _ _ wl) ?_
  rintro _ w5_2 ⟨rfl, h5_2⟩
  have L5_2 := Ll.trans h5_2
  refine W.run 1 rfl (W.nil (E.blkN (E.thenN (WC.region ?_))))
  refine W.a (.add rfl rfl (by omega)) ?_
  refine W.run 1 rfl (W.nil ?_)
  refine E.again (k + 1) (.cons' rfl (int_eq (congrArg Nat.cast (by rw [sumS_snoc xs k _ hx]))) (.cons rfl (.cons rfl (.cons rfl (.nil _))))) ?_ ?_
  ·exact ⟨by omega, L5_2⟩
  first | omega | (simp only []; omega)
 have hkn : k = n := by omega
 subst hkn
 refine WC.exit (E.thenX (E.thenX (E.blkH (E.thenN (WC.sr (W.run 2 rfl (W.nx (WC.ret ?_))))))))
 refine E.ret1 rfl rfl ?_
 exact ⟨by rw [List.take_of_length_le (by omega)], Ll⟩

theorem drawn_ok (name : ByteArray) (hnm : byteCells name = nBlind.map u8v) {A : Option Addr} {c : Nat} {xs : List Byte} (i : Nat) (w : World) (hS : Sb w A 32 xs) : Calls prog 74 #[.string name, .slice A 32 c, .int .i64 (i : Int)] w fun e w' => e = .returned (.int .u64 ((fromB (tag nBlind [xs, [BitVec.ofNat 8 i]]) : Nat) : Int)) /\ Le w w' := by
 refine enter func74 rfl rfl ?_
 have L0 := Le.refl w
 refine WC.sr (W.run 1 rfl (W.nx (WC.sr (W.run 3 rfl ?_))))
 refine W.r (.toU8 i (isS underlying3) underlying5 rfl rfl) ?_
 refine W.ef rfl rfl rfl ?_
 refine Ef.buildSlice1 underlying26 el5 rfl rfl ?_
 intro g1_4 w1_4 hg1_4 b1_4 h1_4
 have L1_4 := L0.trans h1_4
 refine W.ef rfl rfl rfl ?_
 refine Ef.buildSliceN [_, _] underlying157 el26 rfl one2s rfl (by decide) (by decide) ?_
 intro g1_5 w1_5 hg1_5 b1_5 h1_5
 have L1_5 := L1_4.trans h1_5
 refine W.cl go21 rfl rfl (tag_ok _ nBlind w1_5 (ps := [xs, [BitVec.ofNat 8 i]]) hnm (b1_5.sl (s := 1) (n := 2) rfl) (.cons (hS.le L1_5) (.cons (Blk.sb (xs := [BitVec.ofNat 8 i]) (b1_4.le h1_5) rfl) (.nil _))) (by rw [tagLen2, hS.len]; show 24 + 5 + 32 + 1 <= _; decide)) ?_
 rintro _ w1_6 ⟨rfl, h1_6⟩
 have L1_6 := L1_5.trans h1_6
 refine W.cl go169 rfl rfl (from_ok _ (tag_length _ _) w1_6) ?_
 rintro _ w1_7 ⟨rfl, h1_7⟩
 have L1_7 := L1_6.trans h1_7
 refine W.run 1 rfl (W.nx (WC.ret ?_))
 refine E.ret1 rfl rfl ?_
 exact ⟨rfl, L1_7⟩

theorem pfrom_ok (p : Nat) (hp : p < 18446744073709551616) (hr : right p = true) {A : Option Addr} {n c : Nat} {xs : List Nat} (w : World) (hS : Sl w 1 A n (xs.map pv)) (hn : n < 8) : Calls prog 76 #[.int .u64 ((p : Nat) : Int), .slice A n c] w fun e w' => ∃ g, e = .returned (.slice (some ⟨g, 0, none⟩) (n + 1) (n + 1)) /\ w.heap.size <= g /\ Blk w' g 43 ((fromP p xs).map pv).toArray /\ Le w w' := by
 have hl := hS.1
 rw [List.length_map, Nat.mul_one] at hl
 refine enter func76 rfl rfl ?_
 have L0 := Le.refl w
 refine WC.sr (W.run 1 rfl (W.nx (WC.sr (W.run 1 rfl ?_))))
 refine W.r (.len underlying35 rfl) ?_
 refine W.run 1 rfl (W.nx (WC.seq (WC.sr (W.run 1 rfl ?_))))
 refine W.cl go75 rfl rfl (pright_T p hp hr w) ?_
 rintro _ w2_1 ⟨rfl, h2_1⟩
 have L2_1 := L0.trans h2_1
 refine W.run 3 rfl ?_
 refine W.g (Any.rd (.dec (.geq rfl rfl) (decide_eq_false (by omega))) _) ?_
 refine W.run 1 rfl (W.nx (WC.condF rfl (WC.sn (WC.sr (W.run 1 rfl ?_)))))
 refine W.a (.add rfl rfl (by omega)) ?_
 refine W.ef rfl rfl rfl ?_
 refine Ef.makeSlice (n + 1) (n + 1) underlying39 el43 rfl (by omega) rfl (by omega) (Nat.le_refl _) (by omega) (by unfold maxLen; omega) ?_
 intro g4_2 w4_2 hg4_2 b4_2 h4_2
 have L4_2 := L2_1.trans h4_2
 have bp : Blk w4_2 g4_2 43 ((List.replicate (n + 1) 0).map pv).toArray := b4_2.cast (made_pv _)
 have hg := Nat.le_trans L2_1.size hg4_2
 refine W.run 1 rfl (W.nx (WC.sr (W.run 3 rfl ?_)))
 refine W.a (.idxB1 (n) underlying39 sz43 rfl rfl (rfl) (by omega)) ?_
 refine W.ef0 rfl rfl ?_
 refine Ef.store sz43 rfl rfl (bp) (by simp) (rfl) ?_
 intro w5_4 b5_4 h5_4
 have L5_4 : Le w w5_4 := L4_2.then_ h5_4 (fun q hq => by cases hq; exact hg)
 have bp : Blk w5_4 g4_2 43 ((List.replicate n 0 ++ [p]).map pv).toArray := b5_4.cast ((set_pv _ n p).trans (by rw [List.replicate_succ', List.set_append_right _ _ (by simp)]; simp))
 refine W.nx (WC.seq (WC.sr (W.run 2 rfl (W.nx (WC.block ?_)))))
 refine WC.loop (ι := Nat) (fun k => [(1, .slice A n c), (5, .int .i64 (n : Int)), (6, .slice (some ⟨g4_2, 0, none⟩) (n + 1) (n + 1)), (25, .int .i64 (n : Int)), (26, .int .i64 (k : Int))]) (fun k wl => k <= n /\ Le w wl /\ Blk wl g4_2 43 ((List.replicate (n - k) 0 ++ fromP p (xs.drop (n - k))).map pv).toArray) (fun k => n - k) 0 ?_ ?_ ?_
 ·exact .cons rfl (.cons rfl (.cons rfl (.cons rfl (.cons rfl (.nil _)))))
 ·exact ⟨Nat.zero_le _, L5_4, bp.cast (by rw [Nat.sub_zero, List.drop_of_length_le (by omega)]; rfl)⟩
 rintro k wl ⟨hk, Ll, bl⟩
 refine WC.sr (W.run 1 rfl (W.nx (WC.seq ?_)))
 refine WC.cond rfl (fun c1 => ?_) (fun c1 => ?_)
 ·have hmx := mixP_lt p hp (xs.drop (n - k)) (n - k) (n - 1 - k + 1)
  have hml : (List.replicate (n - k) 0 ++ fromP p (xs.drop (n - k))).length = n + 1 := by rw [List.length_append, List.length_replicate, fromP_length, List.length_drop]; omega
  refine WC.sn (WC.seq (WC.block (WC.sr (W.run 2 rfl (W.nx (WC.sr (W.run 1 rfl ?_)))))))
  refine W.a (.sub rfl rfl (by omega)) ?_
  refine W.run 1 rfl ?_
  refine W.a (.sub rfl rfl (by omega)) ?_
  refine W.run 1 rfl (W.nx ?_)
  refine WC.draw [0, 1, 2, 3, 4, 5, 6, 7, 8, 9, 10, 11, 12, 13, 14] mixed (by kernel_rfl) ?_
  intro w10 d10
  have L10 := Ll.trans d10
  refine G.run 4 rfl ?_
  refine G.a rfl (.add rfl rfl (by omega)) ?_
  refine G.a rfl (.idxB1 (n - 1 - k + 1) underlying39 sz43 rfl rfl (by omega) (by omega)) ?_
  refine G.r rfl (.loadB na43 rfl (bl.le d10) (getpB _ (by omega))) ?_
  refine G.run 2 rfl ?_
  refine G.a rfl (.idxS1 (n - 1 - k) underlying35 sz28 rfl rfl (hS.isSome (j := n - 1 - k) (by omega) (by decide)) (by omega) (by omega)) ?_
  refine G.r rfl (.loadS na28 rfl (hS.le L10) (getp xs (by omega))) ?_
  refine G.ef rfl rfl rfl rfl rfl ?_
  refine Ef.call go20 rfl rfl (base_ok _ w10) ?_
  rintro _ w10_11 ⟨rfl, h10_11⟩
  refine ⟨_, rfl, ?_⟩
  have L10_11 := L10.trans h10_11
  refine ⟨fun _ => h10_11, ?_⟩
  refine G.ef rfl rfl rfl rfl rfl ?_
  refine Ef.call go171 rfl rfl (padd_ok _ _ hmx (base_lt _) w10_11) ?_
  rintro _ w10_12 ⟨rfl, h10_12⟩
  refine ⟨_, rfl, ?_⟩
  have L10_12 := L10_11.trans h10_12
  refine ⟨fun _ => h10_12, ?_⟩
  refine G.a rfl (.idxB1 (n - 1 - k) underlying39 sz43 rfl rfl (by omega) (by omega)) ?_
  refine G.ef0 rfl rfl rfl rfl ?_
  refine Ef.store sz43 rfl rfl (bl.le (d10.trans (h10_11.trans h10_12))) (by rw [List.size_toArray, List.length_map]; omega) (rfl) ?_
  intro w10_14 b10_14 h10_14
  have L10_14 : Le w w10_14 := L10_12.then_ h10_14 (fun q hq => by cases hq; exact hg)
  refine noT (by kernel_rfl) ?_
  refine G.nil (E.blkN (E.thenN (WC.region ?_)))
  refine W.a (.add rfl rfl (by omega)) ?_
  refine W.run 1 rfl (W.nil ?_)
  refine E.again (k + 1) (.cons rfl (.cons rfl (.cons rfl (.cons rfl (.cons rfl (.nil _)))))) ?_ ?_
  ·exact ⟨by omega, L10_14, b10_14.cast ((set_pv _ _ _).trans (by have := fill_back p xs k (by omega); rw [hl] at this; rw [<- this]))⟩
  first | omega | (simp only []; omega)
 have hkn : n = k := by omega
 subst hkn
 refine WC.exit (E.thenX (E.thenX (E.blkH (E.thenN (WC.sr (W.run 2 rfl (W.nx (WC.ret ?_))))))))
 refine E.ret1 rfl rfl ?_
 exact ⟨g4_2, rfl, hg, bl.cast (by rw [Nat.sub_self]; rfl), Ll⟩

set_option maxHeartbeats 1000000 in
theorem pnew_ok (p : Nat) (hp : p < 18446744073709551616) (hr : right p = true) (hp1 : p ≠ 1) (seed : List Byte) (hse : seed.length = 32) (n : Nat) (h1 : 1 <= n) (h8 : n <= 8) (w : World) : Calls prog 19 #[.int .u64 ((p : Nat) : Int), .agg (seed.map u8v).toArray, .int .i64 (n : Int)] w fun e w' => ∃ g A c, e = .returned (.tuple #[.agg #[.slice (some ⟨g, 0, none⟩) n n, .slice A (n - 1) c], .bool true]) /\ w.heap.size <= g /\ Blk w' g 43 ((fromP p (blindsP seed (n - 1))).map pv).toArray /\ Sx.Own w' w.heap.size 28 1 A (n - 1) c ((blindsP seed (n - 1)).map pv) /\ Le w w' := by
 refine enter func19 rfl rfl ?_
 have L0 := Le.refl w
 refine WC.sr (W.ef rfl rfl rfl ?_)
 refine Ef.boxA rfl ?_
 intro g0_0 w0_0 hg0_0 b0_0 h0_0
 have L0_0 := L0.trans h0_0
 refine W.ef rfl rfl rfl ?_
 refine Ef.allocA z41 ?_
 intro g0_1 w0_1 hg0_1 b0_1 h0_1
 have L0_1 := L0_0.trans h0_1
 have bs := b0_0.le h0_1
 have br : Blk w0_1 g0_1 41 #[.slice none 0 0, .slice none 0 0] := b0_1
 have hL0 := h0_0.trans h0_1
 have LL := Le.refl w0_1
 refine W.run 1 rfl (W.nx (WC.seq (WC.sr (W.run 1 rfl ?_))))
 refine W.cl go75 rfl rfl (pright_T p hp hr w0_1) ?_
 rintro _ w1_1 ⟨rfl, h1_1⟩
 have L1_1 := LL.trans h1_1
 refine W.run 3 rfl ?_
 refine W.g (Any.rd (.dec (.eql rfl rfl) (decide_eq_false (by omega))) _) ?_
 refine W.run 3 rfl ?_
 refine W.g (Any.rd (.dec (.lss rfl rfl) (decide_eq_false (by omega))) _) ?_
 refine W.run 3 rfl ?_
 refine W.g (Any.rd (.dec (.gtr rfl rfl) (decide_eq_false (by omega))) _) ?_
 refine W.run 1 rfl (W.nx (WC.condF rfl (WC.sn (WC.sr (W.ef rfl rfl rfl ?_)))))
 refine Ef.allocA z41 ?_
 intro g3_0 w3_0 hg3_0 b3_0 h3_0
 have L3_0 := L1_1.trans h3_0
 have b3 : Blk w3_0 g3_0 41 #[.slice none 0 0, .slice none 0 0] := b3_0
 refine W.nx (WC.seq (WC.sr (W.run 1 rfl ?_)))
 refine W.a (.sub rfl rfl (by omega)) ?_
 refine W.run 1 rfl (W.nx (WC.block ?_))
 refine WC.loop (ι := Nat × Option Addr × Nat) (fun ⟨k, Ab, cb⟩ => [(0, .int .u64 ((p : Nat) : Int)), (4, .pointer (some ⟨g0_0, 0, none⟩)), (6, .pointer (some ⟨g0_1, 0, none⟩)), (8, .pointer (some ⟨g3_0, 0, none⟩)), (27, .int .i64 ((n : Int) - 1)), (28, .int .i64 (k : Int))]) (fun ⟨k, Ab, cb⟩ wl => k <= n - 1 /\ Le w1_1 wl /\ Blk wl g3_0 41 #[.slice none 0 0, .slice Ab k cb] /\ Sx.Own wl w1_1.heap.size 28 1 Ab k cb ((blindsP seed k).map pv) /\ rowOf Ab cb ≠ some g3_0) (fun ⟨k, Ab, cb⟩ => n - 1 - k) (0, none, 0) ?_ ?_ ?_
 ·exact .cons rfl (.cons rfl (.cons rfl (.cons rfl (.cons rfl (.cons rfl (.nil _))))))
 ·exact ⟨Nat.zero_le _, h3_0, b3, Own.nil _ _ _ _ _, by simp [rowOf_zero]⟩
 rintro ⟨k, Ab, cb⟩ wl ⟨hk, Ll, bl, ob, nb⟩
 have hgl := bl.lt
 refine WC.sr (W.run 1 rfl (W.nx (WC.seq ?_)))
 refine WC.cond rfl (fun c1 => ?_) (fun c1 => ?_)
 ·refine WC.sn (WC.seq (WC.block (WC.sr (W.run 2 rfl (W.nx ?_)))))
  refine WC.draw [0, 1, 2, 3, 4, 5, 6, 7, 8] mixed (by kernel_rfl) ?_
  intro w7 d7
  have L7 := Ll.trans d7
  have bl := bl.le d7
  have ob := ob.le d7
  refine G.a rfl (.field0 fa41_1 rfl) ?_
  refine G.r rfl (.loadB na35 rfl (bl) (rfl)) ?_
  refine G.a rfl (.cutArr underlying30 sz5 rfl) ?_
  refine G.run 1 rfl ?_
  refine G.ef rfl rfl rfl rfl rfl ?_
  refine Ef.call go74 rfl rfl (drawn_ok _ rfl k w7 ((bs.le (L1_1.trans L7)).sb hse)) ?_
  rintro _ w7_4 ⟨rfl, h7_4⟩
  refine ⟨_, rfl, ?_⟩
  have L7_4 := L7.trans h7_4
  refine ⟨fun _ => h7_4, ?_⟩
  refine G.ef rfl rfl rfl rfl rfl ?_
  refine Ef.buildSlice1 underlying35 el28 rfl rfl ?_
  intro g7_5 w7_5 hg7_5 b7_5 h7_5
  have L7_5 := L7_4.trans h7_5
  refine ⟨fun _ => h7_5, ?_⟩
  refine G.ef rfl rfl rfl rfl rfl ?_
  refine Ef.append underlying35 el28 rfl ((ob.le h7_4).le h7_5) rfl (b7_5.src1 underlying35 rfl) (by omega) (by unfold maxLen; omega) (L7_5.size) ?_
  intro A7_6 c7_6 w7_6 o7_6 h7_6 at7_6
  have L7_6 : Le w1_1 w7_6 := L7_5.then_ h7_6 (fun q hq => (ob.row hq).1)
  refine noT (by kernel_rfl) ?_
  have bl := ((bl.le h7_4).le h7_5).ch h7_6 nb
  have ob7 : Sx.Own w7_6 w1_1.heap.size 28 1 A7_6 (k + 1) c7_6 ((blindsP seed (k + 1)).map pv) := o7_6.cast rfl (by rw [blindsP_succ, List.map_append]; rfl)
  refine G.a rfl (.field0 fa41_1 rfl) ?_
  have nb7 : rowOf A7_6 c7_6 ≠ some g3_0 := at7_6.off (by have := d7.size; have := h7_4.size; have := h7_5.size; omega) nb
  refine G.ef0 rfl rfl rfl rfl ?_
  refine Ef.store sz35 rfl rfl (bl) (by simp) (rfl) ?_
  intro w7_8 b7_8 h7_8
  have L7_8 : Le w1_1 w7_8 := L7_6.then_ h7_8 (fun q hq => by cases hq; exact hg3_0)
  refine noT (by kernel_rfl) ?_
  have o8 := ob7.ch h7_8 (fun q hq => by cases hq; exact nb7)
  refine G.nil (E.blkN (E.thenN (WC.region ?_)))
  refine W.a (.add rfl rfl (by omega)) ?_
  refine W.run 1 rfl (W.nil ?_)
  refine E.again (k + 1, A7_6, c7_6) (.cons rfl (.cons rfl (.cons rfl (.cons rfl (.cons rfl (.cons rfl (.nil _))))))) ?_ ?_
  ·exact ⟨by omega, L7_8, b7_8, o8, nb7⟩
  first | omega | (simp only []; omega)
 have hkn : k = n - 1 := by omega
 subst hkn
 refine WC.exit (E.thenX (E.thenX (E.blkH (E.thenN (WC.sr (W.run 1 rfl ?_))))))
 refine W.a (.field0 fa41_1 rfl) ?_
 refine W.r (.loadB na35 rfl (bl) (rfl)) ?_
 refine W.cl go76 rfl rfl (pfrom_ok p hp hr wl ob.sl (by omega)) ?_
 rintro _ w9_3 ⟨g9, rfl, hg9, b9, h9_3⟩
 have L9_3 := Ll.trans h9_3
 refine W.a (.field0 fa41_0 rfl) ?_
 refine W.ef0 rfl rfl ?_
 refine Ef.store sz39 rfl rfl (bl.le h9_3) (by simp) (rfl) ?_
 intro w9_5 b9_5 h9_5
 have L9_5 : Le w1_1 w9_5 := L9_3.then_ h9_5 (fun q hq => by cases hq; exact hg3_0)
 have b9 := b9.ch h9_5 (by simp; have := bl.lt; omega)
 have ob := (ob.le h9_3).ch h9_5 (fun q hq => by cases hq; exact nb)
 refine W.nx (WC.sr ?_)
 refine W.r (.loadAll ag41 (by rfl) rfl (b9_5)) ?_
 refine W.ef0 rfl rfl ?_
 refine Ef.storeAll sz41 (by rfl) rfl rfl (br.le (L1_1.trans L9_5)) (by rfl) (one2s) ?_
 intro w10_1 b10_1 h10_1
 have L10_1 : Le w w10_1 := (hL0.trans (L1_1.trans L9_5)).then_ h10_1 (fun q hq => by cases hq; exact Nat.le_trans h0_0.size hg0_1)
 have b9 := b9.ch h10_1 (by simp; have := br.lt; have := L1_1.size; have := Ll.size; omega)
 have ob := ob.ch h10_1 (fun q hq => by cases hq; exact fun he => by have := (ob.row he).1; have := br.lt; have := L1_1.size; omega)
 refine W.run 1 rfl (W.nx (WC.ret ?_))
 refine E.retCT rfl rfl rfl b10_1 ag41 (by rfl) ?_
 exact ⟨g9, Ab, cb, by rw [show n - 1 + 1 = n by omega]; rfl, Nat.le_trans (hL0.trans (L1_1.trans Ll)).size hg9, b9, ob.mono (hL0.trans L1_1).size, L10_1⟩
end Go.Proofs.YtocheaahlpiajaaGreatDoor

namespace Go.Proofs.YtocheaahlpiajaaGreatDoor
open Tryz
open Go Go.Sx Go.Hsp Go.Num Go.Osp Go.Gsp
set_option maxRecDepth 20000
theorem ints_ok {A B : Option Addr} {n c m d : Nat} {xs ys : List (Int)} (w : World) (hV : Vec w iv 1 A n xs) (hU : Vec w iv 1 B m ys) (hn : n <= 1000000) : Calls prog 34 #[.slice A n c, .slice B m d] w fun r w' => r = .returned (.bool (decide (xs = ys))) /\ Le w w' := by
 have hl := hV.1
 have hm := hU.1
 refine enter func34 rfl rfl ?_
 have L0 := Le.refl w
 refine WC.sr (W.run 1 rfl (W.nx (WC.seq (WC.sr (W.run 1 rfl ?_)))))
 refine W.r (.len underlying23 rfl) ?_
 refine W.run 1 rfl ?_
 refine W.r (.len underlying23 rfl) ?_
 refine W.run 1 rfl (W.nx ?_)
 by_cases c0 : ((n : Nat) : Int) ≠ ((m : Nat) : Int)
 ·refine WC.condY rfl (decide_eq_true c0) ?_
  refine WC.sr (W.run 1 rfl (W.nx (WC.ret (E.thenR ?_))))
  refine E.retG1 rfl rfl ?_
  exact ⟨rB (decide_eq_false (fun h => by subst h; first | omega | exact absurd rfl (by assumption))).symm, L0⟩
 refine WC.condN rfl (decide_eq_false c0) ?_
 refine WC.sn (WC.seq (WC.sr (W.run 1 rfl (W.nx (WC.block ?_)))))
 refine WC.loop (ι := Nat) (fun k => [(0, .slice A n c), (1, .slice B m d), (5, .int .i64 (((k : Nat) : Int)))]) (fun k wl0 => (k <= n) /\ (∀ j, j < k -> xs.getD j 0 = ys.getD j 0) /\ Le w wl0 /\ w.heap.size <= wl0.heap.size) (fun k => n - k) 0 ?_ ?_ ?_
 ·exact .cons rfl (.cons rfl (.cons rfl (.nil _)))
 ·exact ⟨Nat.zero_le _, fun j hj => absurd hj (Nat.not_lt_zero _), L0, Nat.le_refl _⟩
 rintro k wl0 ⟨hk, hz, Ll0, zl0⟩
 refine WC.seq (WC.sr (W.run 2 rfl ?_))
 refine W.r (.len underlying23 rfl) ?_
 refine W.run 1 rfl (W.nx ?_)
 by_cases c1 : ((k : Nat) : Int) < ((n : Nat) : Int)
 ·refine WC.condY rfl (decide_eq_true c1) ?_
  refine WC.sn (WC.seq (WC.block (WC.seq ?_)))
  refine WC.draw [0, 1, 2, 3, 4, 5, 6, 7, 8] mixed (by kernel_rfl) ?_
  intro w6 d6
  have L1 := Ll0.trans d6
  refine G.run 2 rfl ?_
  refine G.a rfl (.idxS (k) underlying23 sz3 rfl rfl (hV.isSome iv_row (by omega)) (rfl) (by omega)) ?_
  refine G.r rfl (.vone (v := .int .i64 ((xs.getD k 0))) na3 rfl (hV.le L1) iv_row (getS xs 0 (by omega)) rfl) ?_
  refine G.run 2 rfl ?_
  refine G.a rfl (.idxS (k) underlying23 sz3 rfl rfl (hU.isSome iv_row (by omega)) (rfl) (by omega)) ?_
  refine G.r rfl (.vone (v := .int .i64 ((ys.getD k 0))) na3 rfl (hU.le L1) iv_row (getS ys 0 (by omega)) rfl) ?_
  refine G.run 1 rfl (G.nil (E.thenN ?_))
  by_cases c2 : (xs.getD k 0) ≠ (ys.getD k 0)
  ·refine WC.condY rfl (decide_eq_true c2) ?_
   refine WC.sr (W.run 1 rfl (W.nx (WC.ret (E.blkR (E.thenR (E.thenR (E.blkR (E.thenR ?_))))))))
   refine E.retG1 rfl rfl ?_
   exact ⟨rB (decide_eq_false (fun h => by subst h; first | omega | exact absurd rfl (by assumption))).symm, L1⟩
  refine WC.condN rfl (decide_eq_false c2) ?_
  refine WC.skip (E.blkN (E.thenN (WC.region (W.run 1 rfl ?_))))
  refine W.a (.add rfl rfl (by omega)) ?_
  refine W.run 1 rfl (W.nil ?_)
  refine E.again (k + 1) (.cons rfl (.cons rfl (.cons rfl (.nil _)))) ?_ ?_
  ·exact ⟨by omega, fun j hj => by rcases Nat.lt_or_ge j k with h | h; exact hz j h; rw [show j = k by omega]; first | exact Decidable.not_not.1 c2 | exact c2, L1, by have := zl0; have := d6.size; omega⟩
  first | omega | (simp only []; omega)
 refine WC.condN rfl (decide_eq_false c1) ?_
 refine WC.exit (E.thenX (E.thenX (E.blkH (E.thenN (WC.sr (W.run 1 rfl (W.nx (WC.ret ?_))))))))
 refine E.retG1 rfl rfl ?_
 exact ⟨rB (decide_eq_true (ext_getD (by omega) (fun j hj => hz j (by omega)))).symm, Ll0⟩



end Go.Proofs.YtocheaahlpiajaaGreatDoor

