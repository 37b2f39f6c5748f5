/- RouteTells: for every input the law answers true and leaves its arguments as they were. -/
import Derived.Test.YtmkdeemjkcigkaaGreatDoorRouteTellsL
import Derived.Lib.Mul64
set_option linter.unusedVariables false
set_option linter.unusedSimpArgs false
namespace Go.Proofs.YtmkdeemjkcigkaaGreatDoor
open Go Go.Sx
set_option maxRecDepth 20000
theorem mul64_ok (x y : Nat) (hx : x < 18446744073709551616) (hy : y < 18446744073709551616) (w : World) : Calls Tryz.prog 149 #[.int .u64 ((x : Nat) : Int), .int .u64 ((y : Nat) : Int)] w fun e w' => e = .returned (.tuple #[.int .u64 ((x * y / 18446744073709551616 : Nat) : Int), .int .u64 ((x * y % 18446744073709551616 : Nat) : Int)]) ∧ Le w w' := by
 obtain ⟨h1, h2, h3, h4⟩ := Go.Lib.mul64_hi x y hx hy
 have h5 : x * y / 18446744073709551616 < 18446744073709551616 := by
  rw [Nat.div_lt_iff_lt_mul (by decide)]
  exact Nat.mul_lt_mul'' hx hy
 have ha := Go.Lib.half_mul_le (a := x / 4294967296) (b := y / 4294967296) (by omega) (by omega)
 have hb := Go.Lib.half_mul_le (a := x / 4294967296) (b := y % 4294967296) (by omega) (by omega)
 have hc := Go.Lib.half_mul_le (a := x % 4294967296) (b := y / 4294967296) (by omega) (by omega)
 refine enter Tryz.func149 rfl rfl ?_
 have L0 := Le.refl w
 refine WC.sr (W.run 2 rfl (W.nx (WC.sr (W.run 1 rfl ?_))))
 refine W.a (.andE (x) (4294967295) (x % 4294967296) rfl rfl rfl rfl (by omega) (by omega) (mask32 _)) ?_
 refine W.run 1 rfl (W.nx (WC.sr (W.run 1 rfl ?_)))
 refine W.a (.shrE (x) (32) (x / 4294967296) rfl rfl rfl rfl (by decide) (rfl)) ?_
 refine W.run 1 rfl (W.nx (WC.sr (W.run 1 rfl ?_)))
 refine W.a (.andE (y) (4294967295) (y % 4294967296) rfl rfl rfl rfl (by omega) (by omega) (mask32 _)) ?_
 refine W.run 1 rfl (W.nx (WC.sr (W.run 1 rfl ?_)))
 refine W.a (.shrE (y) (32) (y / 4294967296) rfl rfl rfl rfl (by decide) (rfl)) ?_
 refine W.run 1 rfl (W.nx (WC.sr (W.run 2 rfl ?_)))
 refine W.a (.mulN (x % 4294967296) (y % 4294967296) ((x % 4294967296) * (y % 4294967296)) rfl rfl rfl rfl (Nat.mod_eq_of_lt h1)) ?_
 refine W.run 1 rfl (W.nx (WC.sr (W.run 2 rfl ?_)))
 refine W.a (.mulN (x / 4294967296) (y % 4294967296) ((x / 4294967296) * (y % 4294967296)) rfl rfl rfl rfl (Nat.mod_eq_of_lt (by omega))) ?_
 refine W.run 1 rfl ?_
 refine W.a (.shrE ((x % 4294967296) * (y % 4294967296)) (32) ((x % 4294967296) * (y % 4294967296) / 4294967296) rfl rfl rfl rfl (by decide) (rfl)) ?_
 refine W.a (.addN ((x / 4294967296) * (y % 4294967296)) ((x % 4294967296) * (y % 4294967296) / 4294967296) ((x / 4294967296) * (y % 4294967296) + (x % 4294967296) * (y % 4294967296) / 4294967296) rfl rfl rfl rfl (Nat.mod_eq_of_lt h2)) ?_
 refine W.run 1 rfl (W.nx (WC.sr (W.run 1 rfl ?_)))
 refine W.a (.andE ((x / 4294967296) * (y % 4294967296) + (x % 4294967296) * (y % 4294967296) / 4294967296) (4294967295) (((x / 4294967296) * (y % 4294967296) + (x % 4294967296) * (y % 4294967296) / 4294967296) % 4294967296) rfl rfl rfl rfl (by omega) (by omega) (mask32 _)) ?_
 refine W.run 1 rfl (W.nx (WC.sr (W.run 1 rfl ?_)))
 refine W.a (.shrE ((x / 4294967296) * (y % 4294967296) + (x % 4294967296) * (y % 4294967296) / 4294967296) (32) (((x / 4294967296) * (y % 4294967296) + (x % 4294967296) * (y % 4294967296) / 4294967296) / 4294967296) rfl rfl rfl rfl (by decide) (rfl)) ?_
 refine W.run 1 rfl (W.nx (WC.sr (W.run 3 rfl ?_)))
 refine W.a (.mulN (x % 4294967296) (y / 4294967296) ((x % 4294967296) * (y / 4294967296)) rfl rfl rfl rfl (Nat.mod_eq_of_lt (by omega))) ?_
 refine W.a (.addN (((x / 4294967296) * (y % 4294967296) + (x % 4294967296) * (y % 4294967296) / 4294967296) % 4294967296) ((x % 4294967296) * (y / 4294967296)) (((x / 4294967296) * (y % 4294967296) + (x % 4294967296) * (y % 4294967296) / 4294967296) % 4294967296 + (x % 4294967296) * (y / 4294967296)) rfl rfl rfl rfl (Nat.mod_eq_of_lt h3)) ?_
 refine W.run 1 rfl (W.nx (WC.sr (W.run 2 rfl ?_)))
 refine W.a (.mulN (x / 4294967296) (y / 4294967296) ((x / 4294967296) * (y / 4294967296)) rfl rfl rfl rfl (Nat.mod_eq_of_lt (by omega))) ?_
 refine W.run 1 rfl ?_
 refine W.a (.addN ((x / 4294967296) * (y / 4294967296)) (((x / 4294967296) * (y % 4294967296) + (x % 4294967296) * (y % 4294967296) / 4294967296) / 4294967296) ((x / 4294967296) * (y / 4294967296) + ((x / 4294967296) * (y % 4294967296) + (x % 4294967296) * (y % 4294967296) / 4294967296) / 4294967296) rfl rfl rfl rfl (Nat.mod_eq_of_lt (by omega))) ?_
 refine W.run 1 rfl ?_
 refine W.a (.shrE (((x / 4294967296) * (y % 4294967296) + (x % 4294967296) * (y % 4294967296) / 4294967296) % 4294967296 + (x % 4294967296) * (y / 4294967296)) (32) ((((x / 4294967296) * (y % 4294967296) + (x % 4294967296) * (y % 4294967296) / 4294967296) % 4294967296 + (x % 4294967296) * (y / 4294967296)) / 4294967296) rfl rfl rfl rfl (by decide) (rfl)) ?_
 refine W.a (.addN ((x / 4294967296) * (y / 4294967296) + ((x / 4294967296) * (y % 4294967296) + (x % 4294967296) * (y % 4294967296) / 4294967296) / 4294967296) ((((x / 4294967296) * (y % 4294967296) + (x % 4294967296) * (y % 4294967296) / 4294967296) % 4294967296 + (x % 4294967296) * (y / 4294967296)) / 4294967296) (x * y / 18446744073709551616) rfl rfl rfl rfl ((Nat.mod_eq_of_lt (by rw [h4]; exact h5)).trans h4)) ?_
 refine W.run 1 rfl (W.nx (WC.sr (W.run 2 rfl ?_)))
 refine W.a (.mulN (x) (y) (x * y % 18446744073709551616) rfl rfl rfl rfl (rfl)) ?_
 refine W.run 1 rfl (W.nx (WC.ret ?_))
 refine E.ret2 rfl rfl rfl ?_
 exact ⟨rfl, L0⟩

def tab8 : ByteArray := ⟨[0, 1, 2, 2, 3, 3, 3, 3, 4, 4, 4, 4, 4, 4, 4, 4, 5, 5, 5, 5, 5, 5, 5, 5, 5, 5, 5, 5, 5, 5, 5, 5, 6, 6, 6, 6, 6, 6, 6, 6, 6, 6, 6, 6, 6, 6, 6, 6, 6, 6, 6, 6, 6, 6, 6, 6, 6, 6, 6, 6, 6, 6, 6, 6, 7, 7, 7, 7, 7, 7, 7, 7, 7, 7, 7, 7, 7, 7, 7, 7, 7, 7, 7, 7, 7, 7, 7, 7, 7, 7, 7, 7, 7, 7, 7, 7, 7, 7, 7, 7, 7, 7, 7, 7, 7, 7, 7, 7, 7, 7, 7, 7, 7, 7, 7, 7, 7, 7, 7, 7, 7, 7, 7, 7, 7, 7, 7, 7, 8, 8, 8, 8, 8, 8, 8, 8, 8, 8, 8, 8, 8, 8, 8, 8, 8, 8, 8, 8, 8, 8, 8, 8, 8, 8, 8, 8, 8, 8, 8, 8, 8, 8, 8, 8, 8, 8, 8, 8, 8, 8, 8, 8, 8, 8, 8, 8, 8, 8, 8, 8, 8, 8, 8, 8, 8, 8, 8, 8, 8, 8, 8, 8, 8, 8, 8, 8, 8, 8, 8, 8, 8, 8, 8, 8, 8, 8, 8, 8, 8, 8, 8, 8, 8, 8, 8, 8, 8, 8, 8, 8, 8, 8, 8, 8, 8, 8, 8, 8, 8, 8, 8, 8, 8, 8, 8, 8, 8, 8, 8, 8, 8, 8, 8, 8, 8, 8, 8, 8, 8, 8, 8, 8, 8, 8, 8, 8].toArray⟩

end Go.Proofs.YtmkdeemjkcigkaaGreatDoor

namespace Go.Proofs.YtmkdeemjkcigkaaGreatDoor
open Go Go.Sx
set_option maxRecDepth 20000
structure Hid (p : Prop) : Prop where
  out : p
theorem divQ (c V T K h l y Y U v e1 e0 R Q1 Q2 : Nat) (hc : 0 < c) (hcV : c * V = T) (hK : K * K = T) (hy : 0 < y) (hY : Y = y * c) (hU : U = h * c + l / V) (hv : v = l * c % T) (h1 : e1 = v / K) (h0 : e0 = v % K) (hR : R = (U * K + e1) % Y) (hQ1 : Q1 = (U * K + e1) / Y) (hQ2 : Q2 = (R * K + e0) / Y) :
    (R * K + e0) % Y / c = (h * T + l) % y ∧ Q1 * K + Q2 = (h * T + l) / y := by
  have hY0 : 0 < Y := by rw [hY]; exact Nat.mul_pos hy hc
  have e5 : K * e1 + e0 = v := by rw [h1, h0]; exact Nat.div_add_mod v K
  have e6 : T * (l / V) + v = l * c := by
    have : l * c / T = l / V := by rw [← hcV, Nat.mul_comm c V]; exact Nat.mul_div_mul_right l V hc
    rw [← this, hv]; exact Nat.div_add_mod _ _
  have e : (U * K + e1) * K + e0 = (h * T + l) * c := by
    rw [Nat.add_mul, Nat.mul_assoc, hK, Nat.mul_comm e1, Nat.add_assoc, e5, hU, Nat.add_mul, Nat.mul_comm (l / V), Nat.add_assoc, e6, Nat.add_mul, Nat.mul_right_comm]
  have d1 : Y * Q1 + R = U * K + e1 := by rw [hQ1, hR]; exact Nat.div_add_mod _ _
  have d2 : Y * Q2 + (R * K + e0) % Y = R * K + e0 := by rw [hQ2]; exact Nat.div_add_mod _ _
  have d3 : (R * K + e0) % Y < Y := Nat.mod_lt _ hY0
  obtain ⟨r, hr⟩ : ∃ r, r = (R * K + e0) % Y := ⟨_, rfl⟩
  rw [← hr] at d2 d3 ⊢
  obtain ⟨N, hN⟩ : ∃ N, N = h * T + l := ⟨_, rfl⟩
  rw [← hN] at e ⊢
  obtain ⟨G, hG⟩ : ∃ G, G = Q1 * K + Q2 := ⟨_, rfl⟩
  rw [← hG]
  have d4 : y * G * c + r = N * c := by
    rw [← e, ← d1, Nat.add_mul, Nat.add_assoc, ← d2, hG, hY, Nat.mul_right_comm, Nat.mul_add, Nat.mul_assoc (y * c), Nat.add_assoc]
  have d5 : y * G ≤ N := Nat.le_of_mul_le_mul_right (by omega) hc
  obtain ⟨D, hD⟩ := Nat.le.dest d5
  have d6 : r = D * c := by rw [← hD, Nat.add_mul] at d4; omega
  have d7 : D < y := by rw [d6, hY] at d3; exact Nat.lt_of_mul_lt_mul_right d3
  rw [d6, Nat.mul_div_cancel _ hc, ← hD, Nat.mul_add_mod, Nat.mod_eq_of_lt d7, Nat.mul_add_div hy, Nat.div_eq_of_lt d7]
  exact ⟨rfl, rfl⟩
theorem div44 (h l y : Nat) (h1 : 524288 ≤ y) (h2 : y < 1048576) (hh : h < y) (hl : l < 18446744073709551616) :
    ∃ Y H G U v, Hid (y * 2 ^ 44 % 18446744073709551616 = Y) ∧ Hid (h * 2 ^ 44 % 18446744073709551616 = H) ∧ Hid (l / 2 ^ 20 = G) ∧ Hid (H ||| G = U) ∧ Hid (l * 2 ^ 44 % 18446744073709551616 = v) ∧ 9223372036854775808 ≤ Y ∧ Y < 18446744073709551616 ∧ U < Y ∧ v < 18446744073709551616 ∧ H < 18446744073709551616 ∧ G < 18446744073709551616 ∧
      ∀ e1 e0 R Q1 Q2, e1 = v / 4294967296 → e0 = v % 4294967296 → R = (U * 4294967296 + e1) % Y → Q1 = (U * 4294967296 + e1) / Y → Q2 = (R * 4294967296 + e0) / Y →
        Hid ((R * 4294967296 + e0) % Y / 2 ^ 44 = (h * 18446744073709551616 + l) % y) ∧ Hid ((Q1 * 4294967296 % 18446744073709551616 + Q2) % 18446744073709551616 = (h * 18446744073709551616 + l) / y) := by
  have p44 : (2 : Nat) ^ 44 = 17592186044416 := by decide
  have p20 : (2 : Nat) ^ 20 = 1048576 := by decide
  have hG : l / 2 ^ 20 < 2 ^ 44 := by rw [Nat.div_lt_iff_lt_mul (by decide)]; exact Nat.lt_of_lt_of_le hl (by decide)
  have hHY : h * 2 ^ 44 + 2 ^ 44 ≤ y * 2 ^ 44 := by rw [← Nat.succ_mul]; exact Nat.mul_le_mul_right _ hh
  have hY1 : y * 2 ^ 44 < 18446744073709551616 := Nat.lt_of_lt_of_le (Nat.mul_lt_mul_of_pos_right h2 (by decide)) (by decide)
  have hY2 : 9223372036854775808 ≤ y * 2 ^ 44 := Nat.le_trans (by decide) (Nat.mul_le_mul_right (2 ^ 44) h1)
  have hH : h * 2 ^ 44 % 18446744073709551616 = h * 2 ^ 44 := Nat.mod_eq_of_lt (Nat.lt_of_le_of_lt (Nat.le_trans (Nat.le_add_right _ _) hHY) hY1)
  have hor : h * 2 ^ 44 ||| l / 2 ^ 20 = h * 2 ^ 44 + l / 2 ^ 20 := by rw [Nat.mul_comm h]; exact (Nat.two_pow_add_eq_or_of_lt hG h).symm
  refine ⟨y * 2 ^ 44, h * 2 ^ 44, l / 2 ^ 20, h * 2 ^ 44 + l / 2 ^ 20, l * 2 ^ 44 % 18446744073709551616, ⟨Nat.mod_eq_of_lt hY1⟩, ⟨hH⟩, ⟨rfl⟩, ⟨hor⟩, ⟨rfl⟩, hY2, hY1, Nat.lt_of_lt_of_le (Nat.add_lt_add_left hG _) hHY, Nat.mod_lt _ (by decide), by rw [← hH]; exact Nat.mod_lt _ (by decide), Nat.lt_trans hG (by decide), ?_⟩
  intro e1 e0 R Q1 Q2 he1 he0 hR hQ1 hQ2
  obtain ⟨g1, g2⟩ := divQ (2 ^ 44) (2 ^ 20) 18446744073709551616 4294967296 h l y _ _ _ e1 e0 R Q1 Q2 (by decide) (by decide) (by decide) (by omega) rfl rfl rfl he1 he0 hR hQ1 hQ2
  refine ⟨⟨g1⟩, ⟨?_⟩⟩
  rw [Nat.mod_add_mod, g2]
  apply Nat.mod_eq_of_lt
  rw [Nat.div_lt_iff_lt_mul (by omega)]
  exact Nat.lt_of_lt_of_le (show h * 18446744073709551616 + l < (h + 1) * 18446744073709551616 from by rw [Nat.succ_mul]; exact Nat.add_lt_add_left hl _) (by rw [Nat.mul_comm 18446744073709551616 y]; exact Nat.mul_le_mul_right _ hh)
theorem len8b : ∀ m, 8 ≤ m → m < 16 → tab8[m]? = some 4 := by
  have h : ∀ m : Fin 16, 8 ≤ m.val → tab8[m.val]? = some 4 := by decide +kernel
  exact fun m h1 h2 => h ⟨m, h2⟩ h1

theorem len64_20 (y : Nat) (h1 : 524288 ≤ y) (h2 : y < 1048576) (w : World) : Calls Tryz.prog 162 #[.int .u64 ((y : Nat) : Int)] w fun e w' => e = .returned (.int .i64 20) ∧ Le w w' := by
 refine enter Tryz.func162 rfl rfl ?_
 have L0 := Le.refl w
 refine WC.sr (W.run 1 rfl (W.nx (WC.seq (WC.sr (W.run 2 rfl (W.nx ?_))))))
 refine WC.condB rfl (fun h => absurd h (by simp; omega)) (fun _ => ?_)
 refine WC.sn (WC.seq (WC.sr (W.run 2 rfl (W.nx ?_))))
 refine WC.condB rfl (fun _ => ?_) (fun h => absurd h (by simp; omega))
 refine WC.sr (W.run 1 rfl ?_)
 refine W.a (.shrE (y) (16) (y / 65536) rfl rfl rfl rfl (by decide) (by omega)) ?_
 refine W.run 1 rfl (W.nx (WC.region (W.run 1 rfl ?_)))
 refine W.a (.add rfl rfl (by omega)) ?_
 refine W.run 1 rfl (W.nx (WC.seq (WC.sr (W.run 2 rfl (W.nx ?_)))))
 refine WC.condB rfl (fun h => absurd h (by simp; omega)) (fun _ => ?_)
 refine WC.sn (WC.sr (W.run 2 rfl ?_))
 refine W.r (.toU8 (y / 65536) (isS Tryz.underlying57) Tryz.underlying5 rfl rfl) ?_
 refine W.a (.idxStr (y / 65536) 4 Tryz.underlying9 rfl rfl (by rw [BitVec.toNat_ofNat, Nat.mod_eq_of_lt (by omega)]) (len8b (y / 65536) (by omega) (by omega))) ?_
 refine W.r (.idI (isS Tryz.underlying5) Tryz.underlying3 rfl (IntWalk.i64_in _ (by decide))) ?_
 refine W.a (.add rfl rfl (by decide)) ?_
 refine W.run 1 rfl (W.nx (WC.ret ?_))
 refine E.ret1 rfl rfl ?_
 exact ⟨rfl, L0⟩

theorem lz64_20 (y : Nat) (h1 : 524288 ≤ y) (h2 : y < 1048576) (w : World) : Calls Tryz.prog 160 #[.int .u64 ((y : Nat) : Int)] w fun e w' => e = .returned (.int .i64 44) ∧ Le w w' := by
 refine enter Tryz.func160 rfl rfl ?_
 have L0 := Le.refl w
 refine WC.sr (W.run 1 rfl (W.nx (WC.sr (W.run 1 rfl ?_))))
 refine W.cl go162 rfl rfl (len64_20 y h1 h2 w) ?_
 rintro _ w1_1 ⟨rfl, h1_1⟩
 have L1_1 := L0.trans h1_1
 refine W.a (.sub rfl rfl (by decide)) ?_
 refine W.run 1 rfl (W.nx (WC.ret ?_))
 refine E.ret1 rfl rfl ?_
 exact ⟨rfl, L1_1⟩

theorem div64_q44 (h l y : Nat) (h1 : 524288 ≤ y) (h2 : y < 1048576) (hh : h < y) (hl : l < 18446744073709551616) (w : World) : Calls Tryz.prog 153 #[.int .u64 ((h : Nat) : Int), .int .u64 ((l : Nat) : Int), .int .u64 ((y : Nat) : Int)] w fun e w' => e = .returned (.tuple #[.int .u64 (((h * 18446744073709551616 + l) / y : Nat) : Int), .int .u64 (((h * 18446744073709551616 + l) % y : Nat) : Int)]) ∧ Le w w' := by
 obtain ⟨Y, Hn, Gn, U, v, fY, fH, fG, fU, fv, hYlo, hYhi, hU, hv2, hH2, hG2, fin⟩ := div44 h l y (by omega) (by omega) hh hl
 obtain ⟨a, ha⟩ : ∃ a, a = Y / 4294967296 := ⟨_, rfl⟩
 obtain ⟨b, hb0⟩ : ∃ b, b = Y % 4294967296 := ⟨_, rfl⟩
 obtain ⟨e1, he1⟩ : ∃ e1, e1 = v / 4294967296 := ⟨_, rfl⟩
 obtain ⟨e0, he0⟩ : ∃ e0, e0 = v % 4294967296 := ⟨_, rfl⟩
 have hY : Y = a * 4294967296 + b := by omega
 have ha1 : 2147483648 ≤ a := by omega
 have ha2 : a < 4294967296 := by omega
 have hb1 : b < 4294967296 := by omega
 have he12 : e1 < 4294967296 := by omega
 have he02 : e0 < 4294967296 := by omega
 obtain ⟨R, hR⟩ : ∃ R, R = (U * 4294967296 + e1) % Y := ⟨_, rfl⟩
 obtain ⟨Q1, hQ1⟩ : ∃ Q1, Q1 = (U * 4294967296 + e1) / Y := ⟨_, rfl⟩
 obtain ⟨Q2, hQ2⟩ : ∃ Q2, Q2 = (R * 4294967296 + e0) / Y := ⟨_, rfl⟩
 have hRY : R < Y := by rw [hR]; exact Nat.mod_lt _ (by omega)
 obtain ⟨hfin, hquo⟩ := fin e1 e0 R Q1 Q2 he1 he0 hR hQ1 hQ2
 have hlz : ∀ w, Calls Tryz.prog 160 #[.int .u64 ((y : Nat) : Int)] w (fun e w' => e = .returned (.int .i64 44) ∧ Le w w') := fun w => by
  exact lz64_20 y (by omega) (by omega) w
 refine enter Tryz.func153 rfl rfl ?_
 have L0 := Le.refl w
 refine WC.sr (W.run 2 rfl (W.nx (WC.seq (WC.sr (W.run 2 rfl (W.nx ?_))))))
 refine WC.condB rfl (fun h => absurd h (by simp; omega)) (fun _ => ?_)
 refine WC.sn (WC.seq (WC.sr (W.run 3 rfl (W.nx ?_))))
 refine WC.condB rfl (fun h => absurd h (by simp; omega)) (fun _ => ?_)
 refine WC.sn (WC.seq (WC.sr (W.run 2 rfl (W.nx ?_))))
 refine WC.cond rfl (fun c2 => ?_) (fun c2 => ?_)
 ·have h0 : h = 0 := by omega
  subst h0
  refine WC.seq ?_
  refine WC.draw [0, 1, 2, 3, 4, 5, 6, 7] mixed (by kernel_rfl) ?_
  intro w6 d6
  have L6 := L0.trans d6
  refine G.run 2 rfl ?_
  refine G.a rfl (.quoN (l) (y) (l / y) rfl rfl rfl rfl (by omega) (by omega) (rfl)) ?_
  refine G.run 2 rfl ?_
  refine G.a rfl (.remN (l) (y) (l % y) rfl rfl rfl rfl (by omega) (rfl)) ?_
  refine G.run 2 rfl (G.nil (E.thenN (WC.ret (E.thenR ?_))))
  refine E.ret2 rfl rfl rfl ?_
  exact ⟨by rw [Nat.zero_mul, Nat.zero_add], L6⟩
 refine WC.sn (WC.sr (W.run 1 rfl ?_))
 refine W.cl go160 rfl rfl (hlz w) ?_
 rintro _ w7_1 ⟨rfl, h7_1⟩
 have L7_1 := L0.trans h7_1
 refine W.r (.idI (isS Tryz.underlying3) Tryz.underlying134 rfl (IntWalk.u64_in _ (by decide))) ?_
 refine W.run 1 rfl (W.nx (WC.sr (W.run 2 rfl ?_)))
 refine W.a (.shlN (y) (44) (Y) rfl rfl rfl rfl (by decide) (fY.out)) ?_
 refine W.run 1 rfl (W.nx (WC.sr (W.run 1 rfl ?_)))
 refine W.a (.shrE (Y) (32) (a) rfl rfl rfl rfl (by decide) (by omega)) ?_
 refine W.run 1 rfl (W.nx (WC.sr (W.run 1 rfl ?_)))
 refine W.a (.andE (Y) (4294967295) (b) rfl rfl rfl rfl (by omega) (by omega) ((mask32 _).trans hb0.symm)) ?_
 refine W.run 1 rfl (W.nx (WC.sr (W.run 2 rfl ?_)))
 refine W.a (.shlN (h) (44) (Hn) rfl rfl rfl rfl (by decide) (fH.out)) ?_
 refine W.run 2 rfl ?_
 refine W.a (.subN (64) (44) (20) rfl rfl rfl rfl (by decide) (by decide)) ?_
 refine W.a (.shrE (l) (20) (Gn) rfl rfl rfl rfl (by decide) (fG.out)) ?_
 refine W.a (.orE (Hn) (Gn) (U) rfl rfl rfl rfl (by omega) (by omega) (fU.out)) ?_
 refine W.run 1 rfl (W.nx (WC.sr (W.run 2 rfl ?_)))
 refine W.a (.shlN (l) (44) (v) rfl rfl rfl rfl (by decide) (fv.out)) ?_
 refine W.run 1 rfl (W.nx (WC.sr (W.run 1 rfl ?_)))
 refine W.a (.shrE (v) (32) (e1) rfl rfl rfl rfl (by decide) (by omega)) ?_
 refine W.run 1 rfl (W.nx (WC.sr (W.run 1 rfl ?_)))
 refine W.a (.andE (v) (4294967295) (e0) rfl rfl rfl rfl (by omega) (by omega) ((mask32 _).trans he0.symm)) ?_
 refine W.run 1 rfl (W.nx (WC.sr (W.run 2 rfl ?_)))
 refine W.a (.quoN (U) (a) (U / a) rfl rfl rfl rfl (by omega) (by omega) (rfl)) ?_
 refine W.run 1 rfl (W.nx (WC.sr (W.run 3 rfl ?_)))
 refine W.a (.mulN (U / a) (a) (U / a * a) rfl rfl rfl rfl (Nat.mod_eq_of_lt (Nat.lt_of_le_of_lt (Nat.div_mul_le_self _ _) (by omega)))) ?_
 refine W.a (.subN (U) (U / a * a) (U % a) rfl rfl rfl rfl (Nat.le_trans (Nat.div_mul_le_self _ _) (by omega)) (sub_div U a (by omega))) ?_
 refine W.run 1 rfl (W.nx ?_)
 refine WC.cut (ι := Unit) (fun () => [(2, .int .u64 ((Y : Nat) : Int)), (8, .int .u64 (44 : Int)), (9, .int .u64 ((a : Nat) : Int)), (10, .int .u64 ((b : Nat) : Int)), (11, .int .u64 ((U : Nat) : Int)), (13, .int .u64 ((e1 : Nat) : Int)), (14, .int .u64 ((e0 : Nat) : Int)), (15, .int .u64 ((Q1 : Nat) : Int))]) (fun () wc15 => Le w wc15) ?_ ?_
 ·refine WC.block ?_
  refine WC.loop (ι := Nat × Nat) (fun ⟨qh, rh⟩ => [(2, .int .u64 ((Y : Nat) : Int)), (8, .int .u64 (44 : Int)), (9, .int .u64 ((a : Nat) : Int)), (10, .int .u64 ((b : Nat) : Int)), (11, .int .u64 ((U : Nat) : Int)), (13, .int .u64 ((e1 : Nat) : Int)), (14, .int .u64 ((e0 : Nat) : Int)), (15, .int .u64 ((qh : Nat) : Int)), (16, .int .u64 ((rh : Nat) : Int))]) (fun ⟨qh, rh⟩ wl => Le w wl ∧ qh * a + rh = U ∧ Q1 ≤ qh ∧ rh < 4294967296 ∧ qh ≤ 4294967297) (fun ⟨qh, rh⟩ => qh) (U / a, U % a) ?_ ?_ ?_
  ·exact .cons rfl (.cons rfl (.cons rfl (.cons rfl (.cons rfl (.cons rfl (.cons rfl (.cons rfl (.cons rfl (.nil _)))))))))
  ·exact ⟨L7_1, by rw [Nat.mul_comm]; exact Nat.div_add_mod _ _, by rw [hQ1]; exact dig_start hY (by omega) hU (by omega), Nat.lt_of_lt_of_le (Nat.mod_lt _ (by omega)) (by omega), dig_first hY (by omega) (by omega) hU⟩
  rintro ⟨qh, rh⟩ wl ⟨Ll, hi, hq, hr, hq2⟩
  refine WC.seq (WC.sr (W.run 2 rfl ?_))
  by_cases hb : 4294967296 ≤ qh
  ·refine W.run 1 rfl ?_
   refine W.skip rfl rfl rfl (decide_eq_true (by omega)) rfl rfl ?_
   refine W.skip rfl rfl rfl (decide_eq_true (by omega)) rfl rfl ?_
   refine W.skip rfl rfl rfl (decide_eq_true (by omega)) rfl rfl ?_
   refine W.skip rfl rfl rfl (decide_eq_true (by omega)) rfl rfl ?_
   refine W.skip rfl rfl rfl (decide_eq_true (by omega)) rfl rfl ?_
   refine W.skip rfl rfl rfl (decide_eq_true (by omega)) rfl rfl ?_
   refine W.skip rfl rfl rfl (decide_eq_true (by omega)) rfl rfl ?_
   refine W.skip rfl rfl rfl (decide_eq_true (by omega)) rfl rfl ?_
   refine W.a (.pickT rfl (decide_eq_true (by omega)) rfl) ?_
   have hgt : Q1 < qh := by rw [hQ1]; exact dig_gt hY hU (by omega) hi (by omega)
   have hd : qh * a = (qh - 1) * a + a := by rw [← Nat.succ_mul]; congr 1; omega
   have hinv : (qh - 1) * a + (rh + a) = U := by omega
   refine W.nx (WC.condT rfl (WC.sn (WC.block (WC.sr (W.run 1 rfl ?_)))))
   refine W.a (.subN (qh) (1) (qh - 1) rfl rfl rfl rfl (by omega) (by omega)) ?_
   refine W.run 1 rfl (W.nx (WC.sr (W.run 2 rfl ?_)))
   refine W.a (.addN (rh) (a) (rh + a) rfl rfl rfl rfl (by omega)) ?_
   refine W.run 1 rfl (W.nx (WC.sr (W.run 2 rfl (W.nx ?_))))
   refine WC.cond rfl (fun c4 => ?_) (fun c4 => ?_)
   ·have hqe : qh - 1 = Q1 := Nat.le_antisymm (by rw [hQ1]; exact dig_brk hY (by omega) hb1 hinv (by omega) (by omega)) (by omega)
    refine WC.exit (E.blkX rfl (E.thenX (E.blkH ?_)))
    refine E.meet () (.cons rfl (.cons rfl (.cons rfl (.cons rfl (.cons rfl (.cons rfl (.cons rfl (.cons' rfl (int_eq (by rw [hqe])) (.nil _))))))))) ?_
    exact Ll
   refine WC.skip (E.blkN ?_)
   refine E.again (qh - 1, rh + a) (.cons rfl (.cons rfl (.cons rfl (.cons rfl (.cons rfl (.cons rfl (.cons rfl (.cons rfl (.cons rfl (.nil _)))))))))) ?_ ?_
   ·exact ⟨Ll, hinv, by omega, by omega, by omega⟩
   first | omega | (simp only []; omega)
  refine W.run 1 rfl ?_
  refine W.rdg (Any.rd (.move rfl) _) rfl rfl rfl (decide_eq_false (by omega)) rfl rfl ?_
  refine W.rdg (Any.rd (.move rfl) _) rfl rfl rfl (decide_eq_false (by omega)) rfl rfl ?_
  have hqb : qh * b < 18446744073709551616 := Nat.lt_of_le_of_lt (Nat.mul_le_mul (show qh ≤ 4294967295 by omega) (show b ≤ 4294967295 by omega)) (by decide)
  refine W.rdg (Any.rd (.mulN (qh) (b) (qh * b) rfl rfl rfl rfl (Nat.mod_eq_of_lt hqb)) _) rfl rfl rfl (decide_eq_false (by omega)) rfl rfl ?_
  refine W.rdg (Any.rd (.move rfl) _) rfl rfl rfl (decide_eq_false (by omega)) rfl rfl ?_
  refine W.rdg (Any.rd (.mulN (4294967296) (rh) (4294967296 * rh) rfl rfl rfl rfl (by omega)) _) rfl rfl rfl (decide_eq_false (by omega)) rfl rfl ?_
  refine W.rdg (Any.rd (.move rfl) _) rfl rfl rfl (decide_eq_false (by omega)) rfl rfl ?_
  refine W.rdg (Any.rd (.addN (4294967296 * rh) (e1) (4294967296 * rh + e1) rfl rfl rfl rfl (by omega)) _) rfl rfl rfl (decide_eq_false (by omega)) rfl rfl ?_
  refine W.rdg (Any.rd (.gtr rfl rfl) _) rfl rfl rfl (decide_eq_false (by omega)) rfl rfl ?_
  refine W.a (.pickF rfl (decide_eq_false (by omega)) rfl) ?_
  refine W.nx ?_
  refine WC.cond rfl (fun c3 => ?_) (fun c3 => ?_)
  ·have hgt : Q1 < qh := by rw [hQ1]; exact dig_gt hY hU (by omega) hi (by omega)
   have hd : qh * a = (qh - 1) * a + a := by rw [← Nat.succ_mul]; congr 1; omega
   have hinv : (qh - 1) * a + (rh + a) = U := by omega
   refine WC.sn (WC.block (WC.sr (W.run 1 rfl ?_)))
   refine W.a (.subN (qh) (1) (qh - 1) rfl rfl rfl rfl (by omega) (by omega)) ?_
   refine W.run 1 rfl (W.nx (WC.sr (W.run 2 rfl ?_)))
   refine W.a (.addN (rh) (a) (rh + a) rfl rfl rfl rfl (by omega)) ?_
   refine W.run 1 rfl (W.nx (WC.sr (W.run 2 rfl (W.nx ?_))))
   refine WC.cond rfl (fun c4 => ?_) (fun c4 => ?_)
   ·have hqe : qh - 1 = Q1 := Nat.le_antisymm (by rw [hQ1]; exact dig_brk hY (by omega) hb1 hinv (by omega) (by omega)) (by omega)
    refine WC.exit (E.blkX rfl (E.thenX (E.blkH ?_)))
    refine E.meet () (.cons rfl (.cons rfl (.cons rfl (.cons rfl (.cons rfl (.cons rfl (.cons rfl (.cons' rfl (int_eq (by rw [hqe])) (.nil _))))))))) ?_
    exact Ll
   refine WC.skip (E.blkN ?_)
   refine E.again (qh - 1, rh + a) (.cons rfl (.cons rfl (.cons rfl (.cons rfl (.cons rfl (.cons rfl (.cons rfl (.cons rfl (.cons rfl (.nil _)))))))))) ?_ ?_
   ·exact ⟨Ll, hinv, by omega, by omega, by omega⟩
   first | omega | (simp only []; omega)
  have hqe : qh = Q1 := Nat.le_antisymm (by rw [hQ1]; exact dig_le hY (by omega) hi (by omega)) hq
  refine WC.exit (E.thenX (E.thenX (E.blkH ?_)))
  refine E.meet () (.cons rfl (.cons rfl (.cons rfl (.cons rfl (.cons rfl (.cons rfl (.cons rfl (.cons' rfl (int_eq (by rw [hqe])) (.nil _))))))))) ?_
  exact Ll
 rintro ⟨⟩ wc15 Lc15
 refine WC.sr (W.run 1 rfl ?_)
 refine W.a (.mulN (U) (4294967296) (U * 4294967296 % 18446744073709551616) rfl rfl rfl rfl (rfl)) ?_
 refine W.run 1 rfl ?_
 refine W.a (.addN (U * 4294967296 % 18446744073709551616) (e1) ((U * 4294967296 + e1) % 18446744073709551616) rfl rfl rfl rfl (by rw [Nat.mod_add_mod])) ?_
 refine W.run 2 rfl ?_
 refine W.a (.mulN (Q1) (Y) (Q1 * Y % 18446744073709551616) rfl rfl rfl rfl (rfl)) ?_
 refine W.a (.subN ((U * 4294967296 + e1) % 18446744073709551616) (Q1 * Y % 18446744073709551616) (R) rfl rfl rfl rfl (Nat.le_of_lt (Nat.mod_lt _ (by decide))) ((dig_rest Y _ _ hQ1 (by omega) (by omega)).trans hR.symm)) ?_
 refine W.run 1 rfl (W.nx (WC.sr (W.run 2 rfl ?_)))
 refine W.a (.quoN (R) (a) (R / a) rfl rfl rfl rfl (by omega) (by omega) (rfl)) ?_
 refine W.run 1 rfl (W.nx (WC.sr (W.run 3 rfl ?_)))
 refine W.a (.mulN (R / a) (a) (R / a * a) rfl rfl rfl rfl (Nat.mod_eq_of_lt (Nat.lt_of_le_of_lt (Nat.div_mul_le_self _ _) (by omega)))) ?_
 refine W.a (.subN (R) (R / a * a) (R % a) rfl rfl rfl rfl (Nat.le_trans (Nat.div_mul_le_self _ _) (by omega)) (sub_div R a (by omega))) ?_
 refine W.run 1 rfl (W.nx ?_)
 refine WC.cut (ι := Unit) (fun () => [(2, .int .u64 ((Y : Nat) : Int)), (8, .int .u64 (44 : Int)), (9, .int .u64 ((a : Nat) : Int)), (10, .int .u64 ((b : Nat) : Int)), (14, .int .u64 ((e0 : Nat) : Int)), (17, .int .u64 ((R : Nat) : Int)), (15, .int .u64 ((Q1 : Nat) : Int)), (18, .int .u64 ((Q2 : Nat) : Int))]) (fun () wc18 => Le w wc18) ?_ ?_
 ·refine WC.block ?_
  refine WC.loop (ι := Nat × Nat) (fun ⟨qh, rh⟩ => [(2, .int .u64 ((Y : Nat) : Int)), (8, .int .u64 (44 : Int)), (9, .int .u64 ((a : Nat) : Int)), (10, .int .u64 ((b : Nat) : Int)), (14, .int .u64 ((e0 : Nat) : Int)), (17, .int .u64 ((R : Nat) : Int)), (15, .int .u64 ((Q1 : Nat) : Int)), (18, .int .u64 ((qh : Nat) : Int)), (16, .int .u64 ((rh : Nat) : Int))]) (fun ⟨qh, rh⟩ wl => Le w wl ∧ qh * a + rh = R ∧ Q2 ≤ qh ∧ rh < 4294967296 ∧ qh ≤ 4294967297) (fun ⟨qh, rh⟩ => qh) (R / a, R % a) ?_ ?_ ?_
  ·exact .cons rfl (.cons rfl (.cons rfl (.cons rfl (.cons rfl (.cons rfl (.cons rfl (.cons rfl (.cons rfl (.nil _)))))))))
  ·exact ⟨Lc15, by rw [Nat.mul_comm]; exact Nat.div_add_mod _ _, by rw [hQ2]; exact dig_start hY (by omega) hRY (by omega), Nat.lt_of_lt_of_le (Nat.mod_lt _ (by omega)) (by omega), dig_first hY (by omega) (by omega) hRY⟩
  rintro ⟨qh, rh⟩ wl ⟨Ll, hi, hq, hr, hq2⟩
  refine WC.seq (WC.sr (W.run 2 rfl ?_))
  by_cases hb : 4294967296 ≤ qh
  ·refine W.run 1 rfl ?_
   refine W.skip rfl rfl rfl (decide_eq_true (by omega)) rfl rfl ?_
   refine W.skip rfl rfl rfl (decide_eq_true (by omega)) rfl rfl ?_
   refine W.skip rfl rfl rfl (decide_eq_true (by omega)) rfl rfl ?_
   refine W.skip rfl rfl rfl (decide_eq_true (by omega)) rfl rfl ?_
   refine W.skip rfl rfl rfl (decide_eq_true (by omega)) rfl rfl ?_
   refine W.skip rfl rfl rfl (decide_eq_true (by omega)) rfl rfl ?_
   refine W.skip rfl rfl rfl (decide_eq_true (by omega)) rfl rfl ?_
   refine W.skip rfl rfl rfl (decide_eq_true (by omega)) rfl rfl ?_
   refine W.a (.pickT rfl (decide_eq_true (by omega)) rfl) ?_
   have hgt : Q2 < qh := by rw [hQ2]; exact dig_gt hY hRY (by omega) hi (by omega)
   have hd : qh * a = (qh - 1) * a + a := by rw [← Nat.succ_mul]; congr 1; omega
   have hinv : (qh - 1) * a + (rh + a) = R := by omega
   refine W.nx (WC.condT rfl (WC.sn (WC.block (WC.sr (W.run 1 rfl ?_)))))
   refine W.a (.subN (qh) (1) (qh - 1) rfl rfl rfl rfl (by omega) (by omega)) ?_
   refine W.run 1 rfl (W.nx (WC.sr (W.run 2 rfl ?_)))
   refine W.a (.addN (rh) (a) (rh + a) rfl rfl rfl rfl (by omega)) ?_
   refine W.run 1 rfl (W.nx (WC.sr (W.run 2 rfl (W.nx ?_))))
   refine WC.cond rfl (fun c6 => ?_) (fun c6 => ?_)
   ·have hqe : qh - 1 = Q2 := Nat.le_antisymm (by rw [hQ2]; exact dig_brk hY (by omega) hb1 hinv (by omega) (by omega)) (by omega)
    refine WC.exit (E.blkX rfl (E.thenX (E.blkH ?_)))
    refine E.meet () (.cons rfl (.cons rfl (.cons rfl (.cons rfl (.cons rfl (.cons rfl (.cons rfl (.cons' rfl (int_eq (by rw [hqe])) (.nil _))))))))) ?_
    exact Ll
   refine WC.skip (E.blkN ?_)
   refine E.again (qh - 1, rh + a) (.cons rfl (.cons rfl (.cons rfl (.cons rfl (.cons rfl (.cons rfl (.cons rfl (.cons rfl (.cons rfl (.nil _)))))))))) ?_ ?_
   ·exact ⟨Ll, hinv, by omega, by omega, by omega⟩
   first | omega | (simp only []; omega)
  refine W.run 1 rfl ?_
  refine W.rdg (Any.rd (.move rfl) _) rfl rfl rfl (decide_eq_false (by omega)) rfl rfl ?_
  refine W.rdg (Any.rd (.move rfl) _) rfl rfl rfl (decide_eq_false (by omega)) rfl rfl ?_
  have hqb : qh * b < 18446744073709551616 := Nat.lt_of_le_of_lt (Nat.mul_le_mul (show qh ≤ 4294967295 by omega) (show b ≤ 4294967295 by omega)) (by decide)
  refine W.rdg (Any.rd (.mulN (qh) (b) (qh * b) rfl rfl rfl rfl (Nat.mod_eq_of_lt hqb)) _) rfl rfl rfl (decide_eq_false (by omega)) rfl rfl ?_
  refine W.rdg (Any.rd (.move rfl) _) rfl rfl rfl (decide_eq_false (by omega)) rfl rfl ?_
  refine W.rdg (Any.rd (.mulN (4294967296) (rh) (4294967296 * rh) rfl rfl rfl rfl (by omega)) _) rfl rfl rfl (decide_eq_false (by omega)) rfl rfl ?_
  refine W.rdg (Any.rd (.move rfl) _) rfl rfl rfl (decide_eq_false (by omega)) rfl rfl ?_
  refine W.rdg (Any.rd (.addN (4294967296 * rh) (e0) (4294967296 * rh + e0) rfl rfl rfl rfl (by omega)) _) rfl rfl rfl (decide_eq_false (by omega)) rfl rfl ?_
  refine W.rdg (Any.rd (.gtr rfl rfl) _) rfl rfl rfl (decide_eq_false (by omega)) rfl rfl ?_
  refine W.a (.pickF rfl (decide_eq_false (by omega)) rfl) ?_
  refine W.nx ?_
  refine WC.cond rfl (fun c5 => ?_) (fun c5 => ?_)
  ·have hgt : Q2 < qh := by rw [hQ2]; exact dig_gt hY hRY (by omega) hi (by omega)
   have hd : qh * a = (qh - 1) * a + a := by rw [← Nat.succ_mul]; congr 1; omega
   have hinv : (qh - 1) * a + (rh + a) = R := by omega
   refine WC.sn (WC.block (WC.sr (W.run 1 rfl ?_)))
   refine W.a (.subN (qh) (1) (qh - 1) rfl rfl rfl rfl (by omega) (by omega)) ?_
   refine W.run 1 rfl (W.nx (WC.sr (W.run 2 rfl ?_)))
   refine W.a (.addN (rh) (a) (rh + a) rfl rfl rfl rfl (by omega)) ?_
   refine W.run 1 rfl (W.nx (WC.sr (W.run 2 rfl (W.nx ?_))))
   refine WC.cond rfl (fun c6 => ?_) (fun c6 => ?_)
   ·have hqe : qh - 1 = Q2 := Nat.le_antisymm (by rw [hQ2]; exact dig_brk hY (by omega) hb1 hinv (by omega) (by omega)) (by omega)
    refine WC.exit (E.blkX rfl (E.thenX (E.blkH ?_)))
    refine E.meet () (.cons rfl (.cons rfl (.cons rfl (.cons rfl (.cons rfl (.cons rfl (.cons rfl (.cons' rfl (int_eq (by rw [hqe])) (.nil _))))))))) ?_
    exact Ll
   refine WC.skip (E.blkN ?_)
   refine E.again (qh - 1, rh + a) (.cons rfl (.cons rfl (.cons rfl (.cons rfl (.cons rfl (.cons rfl (.cons rfl (.cons rfl (.cons rfl (.nil _)))))))))) ?_ ?_
   ·exact ⟨Ll, hinv, by omega, by omega, by omega⟩
   first | omega | (simp only []; omega)
  have hqe : qh = Q2 := Nat.le_antisymm (by rw [hQ2]; exact dig_le hY (by omega) hi (by omega)) hq
  refine WC.exit (E.thenX (E.thenX (E.blkH ?_)))
  refine E.meet () (.cons rfl (.cons rfl (.cons rfl (.cons rfl (.cons rfl (.cons rfl (.cons rfl (.cons' rfl (int_eq (by rw [hqe])) (.nil _))))))))) ?_
  exact Ll
 rintro ⟨⟩ wc18 Lc18
 refine WC.sr (W.run 1 rfl ?_)
 refine W.a (.mulN (Q1) (4294967296) (Q1 * 4294967296 % 18446744073709551616) rfl rfl rfl rfl (rfl)) ?_
 refine W.run 1 rfl ?_
 refine W.a (.addN (Q1 * 4294967296 % 18446744073709551616) (Q2) ((Q1 * 4294967296 % 18446744073709551616 + Q2) % 18446744073709551616) rfl rfl rfl rfl (rfl)) ?_
 refine W.run 1 rfl ?_
 refine W.a (.mulN (R) (4294967296) (R * 4294967296 % 18446744073709551616) rfl rfl rfl rfl (rfl)) ?_
 refine W.run 1 rfl ?_
 refine W.a (.addN (R * 4294967296 % 18446744073709551616) (e0) ((R * 4294967296 + e0) % 18446744073709551616) rfl rfl rfl rfl (by rw [Nat.mod_add_mod])) ?_
 refine W.run 2 rfl ?_
 refine W.a (.mulN (Q2) (Y) (Q2 * Y % 18446744073709551616) rfl rfl rfl rfl (rfl)) ?_
 refine W.a (.subN ((R * 4294967296 + e0) % 18446744073709551616) (Q2 * Y % 18446744073709551616) ((R * 4294967296 + e0) % Y) rfl rfl rfl rfl (Nat.le_of_lt (Nat.mod_lt _ (by decide))) (dig_rest Y _ _ hQ2 (by omega) (by omega))) ?_
 refine W.run 1 rfl ?_
 refine W.a (.shrE ((R * 4294967296 + e0) % Y) (44) ((h * 18446744073709551616 + l) % y) rfl rfl rfl rfl (by decide) (hfin.out)) ?_
 refine W.run 2 rfl (W.nx (WC.ret ?_))
 refine E.ret2 rfl rfl rfl ?_
 exact ⟨by rw [hquo.out], Lc18⟩
end Go.Proofs.YtmkdeemjkcigkaaGreatDoor

namespace Go.Proofs.YtmkdeemjkcigkaaGreatDoor
open Go Go.Sx Go.Hsp Go.Num Go.Osp Go.Gsp
set_option maxRecDepth 20000
def polV (p : Pol) : List Value := [.int .i64 p.b, .int .i64 p.p, .int .i64 p.d, .int .i64 p.l, .int .i64 p.m]
theorem polV_row : RowF polV 5 := ⟨fun _ => rfl, fun x v hv => by simp [polV] at hv; rcases hv with rfl | rfl | rfl | rfl | rfl <;> rfl, by decide⟩
def edgeV (e : Gsp.Edge) : List Value := [.int .i64 e.f, .int .i64 e.t, .int .i64 e.c, .int .i64 e.r, .int .i64 e.pol.b, .int .i64 e.pol.p, .int .i64 e.pol.d, .int .i64 e.pol.l, .int .i64 e.pol.m]
theorem edgeV_row : RowF edgeV 9 := ⟨fun _ => rfl, fun x v hv => by simp [edgeV] at hv; rcases hv with rfl | rfl | rfl | rfl | rfl | rfl | rfl | rfl | rfl <;> rfl, by decide⟩
theorem partC_nat (an nn : Nat) : partC an nn = if an ≤ 1125899906842624 ∧ an * nn / 1000000 ≤ 1125899906842624 then (((an * nn / 1000000 : Nat) : Int), true) else (0, false) := by
  have e : (an : Int) * (nn : Int) / 1000000 = ((an * nn / 1000000 : Nat) : Int) := by rw [Int.natCast_ediv, Int.natCast_mul]; rfl
  unfold partC
  rw [e]
  by_cases h : an ≤ 1125899906842624 ∧ an * nn / 1000000 ≤ 1125899906842624
  · rw [if_pos h, if_pos (by simp [coinB, inB]; omega)]
  · rw [if_neg h, if_neg (by simp [coinB, inB]; omega)]
def orL : List Int → Int
  | [] => 0
  | x :: l => if x ≠ 0 then x else orL l
theorem orL_skip : ∀ (l : List Int) (k : Nat), (∀ j, j < k → l.getD j 0 = 0) → orL l = orL (l.drop k)
  | _, 0, _ => rfl
  | [], k + 1, _ => by simp
  | x :: l, k + 1, h => by
    have h0 : x = 0 := h 0 (by omega)
    rw [orL, if_neg (by simp [h0]), List.drop_succ_cons]
    exact orL_skip l k (fun j hj => h (j + 1) (by omega))
theorem gin_ok (n lo hi : Int) (w : World) : Calls Tryz.prog 64 #[.int .i64 (n), .int .i64 (lo), .int .i64 (hi)] w fun r w' => r = .returned (.bool (inB n lo hi)) ∧ Le w w' := by
 refine enter Tryz.func64 rfl rfl ?_
 have L0 := Le.refl w
 refine WC.sr (W.run 1 rfl (W.nx (WC.sr (W.run 3 rfl ?_))))
 by_cases q1_3 : lo ≤ n
 ·refine W.dt q1_3 rfl rfl (W.run 5 rfl (W.nx (WC.ret ?_)))
  refine E.retG1 rfl rfl ?_
  exact ⟨rB (by simp [inB, q1_3]), L0⟩
 refine W.df q1_3 rfl rfl (W.run 5 rfl (W.nx (WC.ret ?_)))
 refine E.retG1 rfl rfl ?_
 exact ⟨rB (by simp [inB, q1_3]), L0⟩

theorem hin_ok (n lo hi : Int) (w : World) : Calls Tryz.prog 132 #[.int .i64 (n), .int .i64 (lo), .int .i64 (hi)] w fun r w' => r = .returned (.bool (inB n lo hi)) ∧ Le w w' := by
 refine enter Tryz.func132 rfl rfl ?_
 have L0 := Le.refl w
 refine WC.sr (W.run 1 rfl (W.nx (WC.sr (W.run 3 rfl ?_))))
 by_cases q1_3 : lo ≤ n
 ·refine W.dt q1_3 rfl rfl (W.run 5 rfl (W.nx (WC.ret ?_)))
  refine E.retG1 rfl rfl ?_
  exact ⟨rB (by simp [inB, q1_3]), L0⟩
 refine W.df q1_3 rfl rfl (W.run 5 rfl (W.nx (WC.ret ?_)))
 refine E.retG1 rfl rfl ?_
 exact ⟨rB (by simp [inB, q1_3]), L0⟩

theorem coins_ok (a : Int) (w : World) : Calls Tryz.prog 114 #[.int .i64 (a)] w fun r w' => r = .returned (.bool (coinB a)) ∧ Le w w' := by
 refine enter Tryz.func114 rfl rfl ?_
 have L0 := Le.refl w
 refine WC.sr (W.run 1 rfl (W.nx (WC.sr (W.run 2 rfl ?_))))
 by_cases q1_2 : 0 ≤ a
 ·refine W.dt q1_2 rfl rfl (W.run 4 rfl (W.nx (WC.ret ?_)))
  refine E.retG1 rfl rfl ?_
  exact ⟨rB (by simp [coinB, inB, q1_2]), L0⟩
 refine W.df q1_2 rfl rfl (W.run 4 rfl (W.nx (WC.ret ?_)))
 refine E.retG1 rfl rfl ?_
 exact ⟨rB (by simp [coinB, inB, q1_2]), L0⟩

theorem nadd_ok (a b : Int) (w : World) : Calls Tryz.prog 86 #[.int .i64 (a), .int .i64 (b)] w fun r w' => r = .returned (.tuple #[.int .i64 (addC a b).1, .bool (addC a b).2]) ∧ Le w w' := by
 refine enter Tryz.func86 rfl rfl ?_
 have L0 := Le.refl w
 refine WC.sr (W.run 2 rfl (W.nx (WC.seq (WC.sr (W.run 1 rfl ?_)))))
 refine W.cl go114 rfl rfl (coins_ok a w) ?_
 rintro _ w1_1 ⟨rfl, h1_1⟩
 have L1 := L0.trans h1_1
 refine W.run 1 rfl ?_
 by_cases q1_3 : (coinB a) = true
 ·refine W.a (.dec (.move rfl) (congrArg not (q1_3))) ?_
  refine W.run 1 rfl ?_
  refine W.efg rfl rfl rfl (rfl) rfl rfl ?_
  refine Ef.call go114 rfl rfl (coins_ok b w1_1) ?_
  rintro _ w1_5 ⟨rfl, h1_5⟩
  refine ⟨_, rfl, ?_⟩
  have L2 := L1.trans h1_5
  refine W.run 2 rfl ?_
  by_cases q1_8 : (coinB b) = true
  ·refine W.a (.dec (.move rfl) (congrArg not (q1_8))) ?_
   refine W.run 2 rfl ?_
   have hb1 := inB_T (show inB b 0 1125899906842624 = true by assumption)
   refine W.g (Any.rd (.sub rfl rfl (by omega)) _) ?_
   refine W.run 2 rfl (W.nx ?_)
   by_cases c0 : (1125899906842624 - b) < a
   ·refine WC.condY rfl (decide_eq_true c0) ?_
    refine WC.sr (W.run 2 rfl (W.nx (WC.ret (E.thenR ?_))))
    refine E.retG2 rfl rfl rfl ?_
    exact ⟨(by first | rfl | (simp [addC, q1_3, q1_8, c0]; done) | (simp [addC, q1_3, q1_8, c0]; omega) | (simp [addC, q1_3, q1_8, c0]; split <;> first | (exfalso; omega) | (simp; done) | (simp; omega))), L2⟩
   refine WC.condN rfl (decide_eq_false c0) ?_
   refine WC.sn (WC.sr (W.run 2 rfl ?_))
   refine W.a (.add rfl rfl (by have := inB_T (show inB a 0 1125899906842624 = true by assumption); have := inB_T (show inB b 0 1125899906842624 = true by assumption); omega)) ?_
   refine W.run 2 rfl (W.nx (WC.ret ?_))
   refine E.retG2 rfl rfl rfl ?_
   exact ⟨(by first | rfl | (simp [addC, q1_3, q1_8, c0]; done) | (simp [addC, q1_3, q1_8, c0]; omega) | (simp [addC, q1_3, q1_8, c0]; split <;> first | (exfalso; omega) | (simp; done) | (simp; omega))), L2⟩
  refine W.a (.dec (.move rfl) (congrArg not ((Bool.eq_false_iff.2 q1_8)))) ?_
  refine W.run 5 rfl (W.nx (WC.condT rfl (WC.sr (W.run 2 rfl (W.nx (WC.ret (E.thenR ?_)))))))
  refine E.retG2 rfl rfl rfl ?_
  exact ⟨(by first | rfl | (simp [addC, q1_3, q1_8]; done) | (simp [addC, q1_3, q1_8]; omega) | (simp [addC, q1_3, q1_8]; split <;> first | (exfalso; omega) | (simp; done) | (simp; omega))), L2⟩
 refine W.a (.dec (.move rfl) (congrArg not ((Bool.eq_false_iff.2 q1_3)))) ?_
 refine W.run 10 rfl (W.nx (WC.condT rfl (WC.sr (W.run 2 rfl (W.nx (WC.ret (E.thenR ?_)))))))
 refine E.retG2 rfl rfl rfl ?_
 exact ⟨(by first | rfl | (simp [addC, q1_3]; done) | (simp [addC, q1_3]; omega) | (simp [addC, q1_3]; split <;> first | (exfalso; omega) | (simp; done) | (simp; omega))), L1⟩

theorem npart0_ok (a num : Int) (hn : num ≤ 9223372036854775807) (w : World) : Calls Tryz.prog 141 #[.int .i64 (a), .int .i64 (num), .int .i64 (1000000)] w fun r w' => ∃ b : Bool, r = .returned (.tuple #[.int .i64 (partC a num).1, .bool b, .bool (partC a num).2]) ∧ Le w w' := by
 refine enter Tryz.func141 rfl rfl ?_
 have L0 := Le.refl w
 refine WC.sr (W.run 3 rfl (W.nx (WC.seq (WC.sr (W.run 1 rfl ?_)))))
 refine W.cl go114 rfl rfl (coins_ok a w) ?_
 rintro _ w1_1 ⟨rfl, h1_1⟩
 have L1 := L0.trans h1_1
 refine W.run 1 rfl ?_
 by_cases q1_3 : (coinB a) = true
 ·refine W.a (.dec (.move rfl) (congrArg not (q1_3))) ?_
  refine W.run 3 rfl ?_
  by_cases q1_7 : num < 0
  ·refine W.dt q1_7 rfl rfl (W.run 3 rfl (W.nx (WC.condT rfl (WC.sr (W.run 3 rfl (W.nx (WC.ret (E.thenR ?_))))))))
   refine E.retG3 rfl rfl rfl rfl ?_
   exact ⟨false, (by first | rfl | (simp [partC, q1_3, q1_7]; done) | (simp [partC, q1_3, q1_7]; omega) | (simp [partC, q1_3, q1_7]; split <;> first | (exfalso; omega) | (simp; done) | (simp; omega))), L1⟩
  refine W.df q1_7 rfl rfl (W.run 1 rfl ?_)
  refine W.g (Any.rd (.dec (.lss rfl rfl) (show _ = false from by first | decide | rfl)) _) ?_
  refine W.run 1 rfl (W.nx (WC.condF rfl (WC.sn (WC.sr (W.run 1 rfl ?_)))))
  have ha := inB_T (show inB a 0 1125899906842624 = true by assumption)
  obtain ⟨an, rfl⟩ := Int.eq_ofNat_of_zero_le ha.1
  obtain ⟨nn, rfl⟩ := Int.eq_ofNat_of_zero_le (show 0 ≤ num by omega)
  refine W.r (.idI (isS Tryz.underlying3) Tryz.underlying57 rfl (IntWalk.u64_in _ (by omega))) ?_
  refine W.run 1 rfl ?_
  refine W.r (.idI (isS Tryz.underlying3) Tryz.underlying57 rfl (IntWalk.u64_in _ (by omega))) ?_
  refine W.cl go149 rfl rfl (mul64_ok an nn (by omega) (by omega) w1_1) ?_
  rintro _ w3_4 ⟨rfl, h3_4⟩
  have L2 := L1.trans h3_4
  have hdm : an * nn / 18446744073709551616 * 18446744073709551616 + an * nn % 18446744073709551616 = an * nn := by rw [Nat.mul_comm]; exact Nat.div_add_mod _ _
  have hlo := Nat.mod_lt (an * nn) (show 0 < 18446744073709551616 by decide)
  generalize hH : an * nn / 18446744073709551616 = H at *
  generalize hLo : an * nn % 18446744073709551616 = Lo at *
  refine W.run 5 rfl (W.nx (WC.seq (WC.sr (W.run 2 rfl ?_))))
  refine W.r (.idI (isS Tryz.underlying3) Tryz.underlying57 rfl (IntWalk.u64_in _ (by omega))) ?_
  refine W.run 1 rfl (W.nx ?_)
  by_cases c1 : 1000000 ≤ ((H : Nat) : Int)
  ·refine WC.condY rfl (decide_eq_true c1) ?_
   refine WC.sr (W.run 3 rfl (W.nx (WC.ret (E.thenR ?_))))
   refine E.retG3 rfl rfl rfl rfl ?_
   exact ⟨false, by rw [partC_nat]; first | (rw [if_neg (by omega)]; done) | (rw [if_pos (by omega), hQ]), L2⟩
  refine WC.condN rfl (decide_eq_false c1) ?_
  refine WC.sn (WC.sr (W.run 3 rfl ?_))
  refine W.r (.idI (isS Tryz.underlying3) Tryz.underlying57 rfl (IntWalk.u64_in _ (by omega))) ?_
  refine W.cl go153 rfl rfl (div64_q44 H Lo 1000000 (by decide) (by decide) (by omega) hlo w3_4) ?_
  rintro _ w6_4 ⟨rfl, h6_4⟩
  have L3 := L2.trans h6_4
  rw [hdm]
  generalize hQ : an * nn / 1000000 = Qn at *
  generalize hRm : an * nn % 1000000 = Rm at *
  refine W.run 5 rfl (W.nx (WC.seq (WC.sr (W.run 2 rfl (W.nx ?_)))))
  by_cases c2 : 1125899906842624 < ((Qn : Nat) : Int)
  ·refine WC.condY rfl (decide_eq_true c2) ?_
   refine WC.sr (W.run 3 rfl (W.nx (WC.ret (E.thenR ?_))))
   refine E.retG3 rfl rfl rfl rfl ?_
   exact ⟨false, by rw [partC_nat]; first | (rw [if_neg (by omega)]; done) | (rw [if_pos (by omega), hQ]), L3⟩
  refine WC.condN rfl (decide_eq_false c2) ?_
  refine WC.sn (WC.sr (W.run 1 rfl ?_))
  refine W.r (.idI (isS Tryz.underlying57) Tryz.underlying3 rfl (IntWalk.i64_in _ (by omega))) ?_
  refine W.run 5 rfl (W.nx (WC.ret ?_))
  refine E.retG3 rfl rfl rfl rfl ?_
  exact ⟨decide (0 < ((Rm : Nat) : Int)), by rw [partC_nat]; first | (rw [if_neg (by omega)]; done) | (rw [if_pos (by omega), hQ]), L3⟩
 refine W.a (.dec (.move rfl) (congrArg not ((Bool.eq_false_iff.2 q1_3)))) ?_
 refine W.run 7 rfl (W.nx (WC.condT rfl (WC.sr (W.run 3 rfl (W.nx (WC.ret (E.thenR ?_)))))))
 refine E.retG3 rfl rfl rfl rfl ?_
 exact ⟨false, by simp [partC, q1_3], L1⟩

theorem npart_ok (a num : Int) (hn : num ≤ 9223372036854775807) (w : World) : Calls Tryz.prog 113 #[.int .i64 (a), .int .i64 (num), .int .i64 (1000000)] w fun r w' => r = .returned (.tuple #[.int .i64 (partC a num).1, .bool (partC a num).2]) ∧ Le w w' := by
 refine enter Tryz.func113 rfl rfl ?_
 have L0 := Le.refl w
 refine WC.sr (W.run 2 rfl (W.nx (WC.sr (W.run 3 rfl ?_))))
 refine W.cl go141 rfl rfl (npart0_ok a num hn w) ?_
 rintro _ w1_3 ⟨bb, rfl, h1_3⟩
 have L1 := L0.trans h1_3
 refine W.run 7 rfl (W.nx (WC.sr (W.run 4 rfl (W.nx (WC.ret ?_)))))
 refine E.retG2 rfl rfl rfl ?_
 exact ⟨rfl, L1⟩

theorem hright_ok (p : Pol) (w : World) : Calls Tryz.prog 104 #[.agg (polV p).toArray] w fun r w' => r = .returned (.bool (polOk p)) ∧ Le w w' := by
 refine enter Tryz.func104 rfl rfl ?_
 have L0 := Le.refl w
 refine WC.sr (W.ef rfl rfl rfl ?_)
 refine Ef.boxA rfl ?_
 intro g0_0 w0_0 hg0_0 b0_0 h0_0
 have L1 := L0.trans h0_0
 have b0_0 : Blk w0_0 g0_0 49 (polV p).toArray := b0_0
 refine W.run 1 rfl (W.nx (WC.sr ?_))
 refine W.a (.field0 fa49_0 rfl) ?_
 refine W.r (.loadB (v := .int .i64 (p.b)) na3 rfl b0_0 rfl) ?_
 refine W.cl go132 rfl rfl (hin_ok p.b 0 1125899906842624 w0_0) ?_
 rintro _ w1_2 ⟨rfl, h1_2⟩
 have L2 := L1.trans h1_2
 by_cases q1_3 : (inB p.b 0 1125899906842624) = true
 ·refine W.a (.dec (.move rfl) (q1_3)) ?_
  refine W.g (Any.rd (.field0 fa49_3 rfl) _) ?_
  have f3 := (b0_0.le h1_2)
  refine W.g (.loadB (v := .int .i64 (p.l)) na3 rfl f3 rfl) ?_
  refine W.g (Any.rd (.field0 fa49_4 rfl) _) ?_
  refine W.g (.loadB (v := .int .i64 (p.m)) na3 rfl f3 rfl) ?_
  refine W.efg rfl rfl rfl (rfl) rfl rfl ?_
  refine Ef.call go132 rfl rfl (hin_ok p.l 0 p.m w1_2) ?_
  rintro _ w1_8 ⟨rfl, h1_8⟩
  refine ⟨_, rfl, ?_⟩
  have L4 := L2.trans h1_8
  refine W.run 1 rfl ?_
  by_cases q1_10 : (inB p.l 0 p.m) = true
  ·refine W.a (.dec (.move rfl) (q1_10)) ?_
   refine W.g (Any.rd (.field0 fa49_4 rfl) _) ?_
   have f5 := (f3.le h1_8)
   refine W.g (.loadB (v := .int .i64 (p.m)) na3 rfl f5 rfl) ?_
   refine W.efg rfl rfl rfl (rfl) rfl rfl ?_
   refine Ef.call go132 rfl rfl (hin_ok p.m 0 1125899906842624 w1_8) ?_
   rintro _ w1_13 ⟨rfl, h1_13⟩
   refine ⟨_, rfl, ?_⟩
   have L6 := L4.trans h1_13
   refine W.run 1 rfl ?_
   by_cases q1_15 : (inB p.m 0 1125899906842624) = true
   ·refine W.a (.dec (.move rfl) (q1_15)) ?_
    refine W.g (Any.rd (.field0 fa49_1 rfl) _) ?_
    have f7 := (f5.le h1_13)
    refine W.g (.loadB (v := .int .i64 (p.p)) na3 rfl f7 rfl) ?_
    refine W.efg rfl rfl rfl (rfl) rfl rfl ?_
    refine Ef.call go132 rfl rfl (hin_ok p.p 0 1000000 w1_13) ?_
    rintro _ w1_18 ⟨rfl, h1_18⟩
    refine ⟨_, rfl, ?_⟩
    have L8 := L6.trans h1_18
    refine W.run 1 rfl ?_
    by_cases q1_20 : (inB p.p 0 1000000) = true
    ·refine W.a (.dec (.move rfl) (q1_20)) ?_
     refine W.g (Any.rd (.field0 fa49_2 rfl) _) ?_
     have f9 := (f7.le h1_18)
     refine W.g (.loadB (v := .int .i64 (p.d)) na3 rfl f9 rfl) ?_
     refine W.efg rfl rfl rfl (rfl) rfl rfl ?_
     refine Ef.call go132 rfl rfl (hin_ok p.d 0 1048576 w1_18) ?_
     rintro _ w1_23 ⟨rfl, h1_23⟩
     refine ⟨_, rfl, ?_⟩
     have L10 := L8.trans h1_23
     refine W.run 2 rfl (W.nx (WC.ret ?_))
     refine E.retG1 rfl rfl ?_
     exact ⟨rB (by simp [polOk, q1_3, q1_10, q1_15, q1_20]), L10⟩
    refine W.a (.dec (.move rfl) ((Bool.eq_false_iff.2 q1_20))) ?_
    refine W.run 5 rfl (W.nx (WC.ret ?_))
    refine E.retG1 rfl rfl ?_
    exact ⟨rB (by simp [polOk, q1_3, q1_10, q1_15, q1_20]), L8⟩
   refine W.a (.dec (.move rfl) ((Bool.eq_false_iff.2 q1_15))) ?_
   refine W.run 10 rfl (W.nx (WC.ret ?_))
   refine E.retG1 rfl rfl ?_
   exact ⟨rB (by simp [polOk, q1_3, q1_10, q1_15]), L6⟩
  refine W.a (.dec (.move rfl) ((Bool.eq_false_iff.2 q1_10))) ?_
  refine W.run 15 rfl (W.nx (WC.ret ?_))
  refine E.retG1 rfl rfl ?_
  exact ⟨rB (by simp [polOk, q1_3, q1_10]), L4⟩
 refine W.a (.dec (.move rfl) ((Bool.eq_false_iff.2 q1_3))) ?_
 refine W.run 22 rfl (W.nx (WC.ret ?_))
 refine E.retG1 rfl rfl ?_
 exact ⟨rB (by simp [polOk, q1_3]), L2⟩

theorem hfee_ok (p : Pol) (a : Int) (hp : PolI p) (w : World) : Calls Tryz.prog 85 #[.agg (polV p).toArray, .int .i64 (a)] w fun r w' => r = .returned (.tuple #[.int .i64 (feeG p a).1, .bool (feeG p a).2]) ∧ Le w w' := by
 have hp2 := hp.2.1
 refine enter Tryz.func85 rfl rfl ?_
 have L0 := Le.refl w
 refine WC.sr (W.ef rfl rfl rfl ?_)
 refine Ef.boxA rfl ?_
 intro g0_0 w0_0 hg0_0 b0_0 h0_0
 have L1 := L0.trans h0_0
 have b0_0 : Blk w0_0 g0_0 49 (polV p).toArray := b0_0
 refine W.run 2 rfl (W.nx (WC.sr (W.run 1 rfl ?_)))
 refine W.a (.field0 fa49_1 rfl) ?_
 refine W.r (.loadB (v := .int .i64 (p.p)) na3 rfl b0_0 rfl) ?_
 refine W.cl go113 rfl rfl (npart_ok a p.p (by omega) w0_0) ?_
 rintro _ w1_3 ⟨rfl, h1_3⟩
 have L2 := L1.trans h1_3
 refine W.run 5 rfl (W.nx (WC.seq (WC.sr (W.run 2 rfl ?_))))
 by_cases q2_2 : ((partC a p.p).2) = true
 ·refine W.a (.dec (.move rfl) (congrArg not (q2_2))) ?_
  have f3 := (b0_0.le h1_3)
  refine W.g (.loadAll ag49 (by rfl) rfl f3) ?_
  refine W.efg rfl rfl rfl (rfl) rfl rfl ?_
  refine Ef.call go104 rfl rfl (hright_ok p w1_3) ?_
  rintro _ w2_4 ⟨rfl, h2_4⟩
  refine ⟨_, rfl, ?_⟩
  have L4 := L2.trans h2_4
  refine W.run 2 rfl (W.nx ?_)
  by_cases c0 : (polOk p) = true
  ·refine WC.condN rfl (congrArg not (c0)) ?_
   refine WC.sn (WC.sr ?_)
   refine W.a (.field0 fa49_0 rfl) ?_
   have f5 := (f3.le h2_4)
   refine W.r (.loadB (v := .int .i64 (p.b)) na3 rfl f5 rfl) ?_
   refine W.run 1 rfl ?_
   refine W.cl go86 rfl rfl (nadd_ok p.b ((partC a p.p).1) w2_4) ?_
   rintro _ w4_3 ⟨rfl, h4_3⟩
   have L6 := L4.trans h4_3
   refine W.run 4 rfl (W.nx (WC.ret ?_))
   refine E.retG2 rfl rfl rfl ?_
   exact ⟨(by first | rfl | (simp [feeG, q2_2, c0]; done) | (simp [feeG, q2_2, c0]; omega) | (simp [feeG, q2_2, c0]; split <;> first | (exfalso; omega) | (simp; done) | (simp; omega))), L6⟩
  refine WC.condY rfl (congrArg not ((Bool.eq_false_iff.2 c0))) ?_
  refine WC.sr (W.run 2 rfl (W.nx (WC.ret (E.thenR ?_))))
  refine E.retG2 rfl rfl rfl ?_
  exact ⟨(by first | rfl | (simp [feeG, q2_2, c0]; done) | (simp [feeG, q2_2, c0]; omega) | (simp [feeG, q2_2, c0]; split <;> first | (exfalso; omega) | (simp; done) | (simp; omega))), L4⟩
 refine W.a (.dec (.move rfl) (congrArg not ((Bool.eq_false_iff.2 q2_2)))) ?_
 refine W.run 4 rfl (W.nx (WC.condT rfl (WC.sr (W.run 2 rfl (W.nx (WC.ret (E.thenR ?_)))))))
 refine E.retG2 rfl rfl rfl ?_
 exact ⟨(by first | rfl | (simp [feeG, q2_2]; done) | (simp [feeG, q2_2]; omega) | (simp [feeG, q2_2]; split <;> first | (exfalso; omega) | (simp; done) | (simp; omega))), L2⟩

theorem edge_ok (e : Gsp.Edge) (w : World) : Calls Tryz.prog 62 #[.agg (edgeV e).toArray] w fun r w' => r = .returned (.bool (edgeOk e)) ∧ Le w w' := by
 refine enter Tryz.func62 rfl rfl ?_
 have L0 := Le.refl w
 refine WC.sr (W.ef rfl rfl rfl ?_)
 refine Ef.boxA rfl ?_
 intro g0_0 w0_0 hg0_0 b0_0 h0_0
 have L1 := L0.trans h0_0
 have b0_0 : Blk w0_0 g0_0 51 (edgeV e).toArray := b0_0
 refine W.run 1 rfl (W.nx (WC.sr ?_))
 refine W.a (.field0 fa51_0 rfl) ?_
 refine W.r (.loadB (v := .int .i64 (e.f)) na3 rfl b0_0 rfl) ?_
 refine W.cl go64 rfl rfl (gin_ok e.f 0 11 w0_0) ?_
 rintro _ w1_2 ⟨rfl, h1_2⟩
 have L2 := L1.trans h1_2
 by_cases q1_3 : (inB e.f 0 11) = true
 ·refine W.a (.dec (.move rfl) (q1_3)) ?_
  refine W.g (Any.rd (.field0 fa51_1 rfl) _) ?_
  have f3 := (b0_0.le h1_2)
  refine W.g (.loadB (v := .int .i64 (e.t)) na3 rfl f3 rfl) ?_
  refine W.efg rfl rfl rfl (rfl) rfl rfl ?_
  refine Ef.call go64 rfl rfl (gin_ok e.t 0 11 w1_2) ?_
  rintro _ w1_6 ⟨rfl, h1_6⟩
  refine ⟨_, rfl, ?_⟩
  have L4 := L2.trans h1_6
  refine W.run 1 rfl ?_
  by_cases q1_8 : (inB e.t 0 11) = true
  ·refine W.a (.dec (.move rfl) (q1_8)) ?_
   refine W.g (Any.rd (.field0 fa51_0 rfl) _) ?_
   have f5 := (f3.le h1_6)
   refine W.g (.loadB (v := .int .i64 (e.f)) na3 rfl f5 rfl) ?_
   refine W.g (Any.rd (.field0 fa51_1 rfl) _) ?_
   refine W.g (.loadB (v := .int .i64 (e.t)) na3 rfl f5 rfl) ?_
   refine W.run 2 rfl ?_
   by_cases q1_15 : e.f ≠ e.t
   ·refine W.dt q1_15 rfl rfl ?_
    refine W.g (Any.rd (.field0 fa51_2 rfl) _) ?_
    refine W.g (.loadB (v := .int .i64 (e.c)) na3 rfl f5 rfl) ?_
    refine W.efg rfl rfl rfl (rfl) rfl rfl ?_
    refine Ef.call go64 rfl rfl (gin_ok e.c 0 39 w1_6) ?_
    rintro _ w1_18 ⟨rfl, h1_18⟩
    refine ⟨_, rfl, ?_⟩
    have L6 := L4.trans h1_18
    refine W.run 1 rfl ?_
    by_cases q1_20 : (inB e.c 0 39) = true
    ·refine W.a (.dec (.move rfl) (q1_20)) ?_
     refine W.g (Any.rd (.field0 fa51_3 rfl) _) ?_
     have f7 := (f5.le h1_18)
     refine W.g (.loadB (v := .int .i64 (e.r)) na3 rfl f7 rfl) ?_
     refine W.efg rfl rfl rfl (rfl) rfl rfl ?_
     refine Ef.call go64 rfl rfl (gin_ok e.r 1 1125899906842624 w1_18) ?_
     rintro _ w1_23 ⟨rfl, h1_23⟩
     refine ⟨_, rfl, ?_⟩
     have L8 := L6.trans h1_23
     refine W.run 1 rfl ?_
     by_cases q1_25 : (inB e.r 1 1125899906842624) = true
     ·refine W.a (.dec (.move rfl) (q1_25)) ?_
      refine W.g (Any.rd (.field0 fa51_4 rfl) _) ?_
      have f9 := (f7.le h1_23)
      refine W.g (.bpart (polV e.pol) ag49 rfl (by decide) rfl f9 rfl) ?_
      refine W.efg rfl rfl rfl (rfl) rfl rfl ?_
      refine Ef.call go104 rfl rfl (hright_ok e.pol w1_23) ?_
      rintro _ w1_28 ⟨rfl, h1_28⟩
      refine ⟨_, rfl, ?_⟩
      have L10 := L8.trans h1_28
      refine W.run 2 rfl (W.nx (WC.ret ?_))
      refine E.retG1 rfl rfl ?_
      exact ⟨rB (by simp [edgeOk, q1_3, q1_8, q1_15, q1_20, q1_25]), L10⟩
     refine W.a (.dec (.move rfl) ((Bool.eq_false_iff.2 q1_25))) ?_
     refine W.run 5 rfl (W.nx (WC.ret ?_))
     refine E.retG1 rfl rfl ?_
     exact ⟨rB (by simp [edgeOk, q1_3, q1_8, q1_15, q1_20, q1_25]), L8⟩
    refine W.a (.dec (.move rfl) ((Bool.eq_false_iff.2 q1_20))) ?_
    refine W.run 10 rfl (W.nx (WC.ret ?_))
    refine E.retG1 rfl rfl ?_
    exact ⟨rB (by simp [edgeOk, q1_3, q1_8, q1_15, q1_20]), L6⟩
   refine W.df q1_15 rfl rfl (W.run 15 rfl (W.nx (WC.ret ?_)))
   refine E.retG1 rfl rfl ?_
   exact ⟨rB (by simp [edgeOk, q1_3, q1_8, q1_15]), L4⟩
  refine W.a (.dec (.move rfl) ((Bool.eq_false_iff.2 q1_8))) ?_
  refine W.run 22 rfl (W.nx (WC.ret ?_))
  refine E.retG1 rfl rfl ?_
  exact ⟨rB (by simp [edgeOk, q1_3, q1_8]), L4⟩
 refine W.a (.dec (.move rfl) ((Bool.eq_false_iff.2 q1_3))) ?_
 refine W.run 27 rfl (W.nx (WC.ret ?_))
 refine E.retG1 rfl rfl ?_
 exact ⟨rB (by simp [edgeOk, q1_3]), L2⟩

theorem isNaN_ok (a : Int) (w : World) : Calls Tryz.prog 110 #[.int .i64 (a)] w fun r w' => r = .returned (.bool false) ∧ Le w w' := by
 refine enter Tryz.func110 rfl rfl ?_
 have L0 := Le.refl w
 refine WC.sr (W.run 1 rfl (W.nx (WC.sr (W.run 4 rfl (W.nx (WC.ret ?_))))))
 refine E.retG1 rfl rfl ?_
 exact ⟨by simp, L0⟩

theorem compare_ok (a b : Int) (w : World) : Calls Tryz.prog 76 #[.int .i64 (a), .int .i64 (b)] w fun r w' => r = .returned (.int .i64 (cmpI a b)) ∧ Le w w' := by
 refine enter Tryz.func76 rfl rfl ?_
 have L0 := Le.refl w
 refine WC.sr (W.run 1 rfl (W.nx (WC.sr (W.run 1 rfl ?_))))
 refine W.cl go110 rfl rfl (isNaN_ok a w) ?_
 rintro _ w1_1 ⟨rfl, h1_1⟩
 have L1 := L0.trans h1_1
 refine W.run 1 rfl (W.nx (WC.sr (W.run 1 rfl ?_)))
 refine W.cl go110 rfl rfl (isNaN_ok b w1_1) ?_
 rintro _ w2_1 ⟨rfl, h2_1⟩
 have L2 := L1.trans h2_1
 refine W.run 1 rfl (W.nx (WC.seq (WC.sr (W.run 1 rfl (W.nx (WC.condF rfl (WC.sn (WC.seq (WC.sr (W.run 1 rfl (W.nx (WC.condF rfl (WC.sn (WC.seq (WC.sr (W.run 3 rfl (W.nx ?_)))))))))))))))))
 by_cases c3 : a < b
 ·refine WC.condY rfl (decide_eq_true c3) ?_
  refine WC.sr (W.run 1 rfl (W.nx (WC.ret (E.thenR ?_))))
  refine E.retG1 rfl rfl ?_
  exact ⟨(by first | rfl | (simp [cmpI, c3]; done) | (simp [cmpI, c3]; omega) | (simp [cmpI, c3]; split <;> first | (exfalso; omega) | (simp; done) | (simp; omega))), L2⟩
 refine WC.condN rfl (decide_eq_false c3) ?_
 refine WC.sn (WC.seq (WC.sr (W.run 3 rfl (W.nx ?_))))
 by_cases c4 : b < a
 ·refine WC.condY rfl (decide_eq_true c4) ?_
  refine WC.sr (W.run 1 rfl (W.nx (WC.ret (E.thenR ?_))))
  refine E.retG1 rfl rfl ?_
  exact ⟨(by first | rfl | (simp [cmpI, c3, c4]; done) | (simp [cmpI, c3, c4]; omega) | (simp [cmpI, c3, c4]; split <;> first | (exfalso; omega) | (simp; done) | (simp; omega))), L2⟩
 refine WC.condN rfl (decide_eq_false c4) ?_
 refine WC.sn (WC.sr (W.run 1 rfl (W.nx (WC.ret ?_))))
 refine E.retG1 rfl rfl ?_
 exact ⟨(by first | rfl | (simp [cmpI, c3, c4]; done) | (simp [cmpI, c3, c4]; omega) | (simp [cmpI, c3, c4]; split <;> first | (exfalso; omega) | (simp; done) | (simp; omega))), L2⟩

theorem or2_ok {A : Option Addr} {n c : Nat} {xs : List Int} (w : World) (hV : Vec w iv 1 A n xs) (hn : n ≤ 1000000) : Calls Tryz.prog 77 #[.slice A n c] w fun r w' => r = .returned (.int .i64 (orL xs)) ∧ Le w w' := by
 have hl := hV.1
 refine enter Tryz.func77 rfl rfl ?_
 have L0 := Le.refl w
 refine WC.sr (W.run 1 rfl (W.nx (WC.sr (W.run 1 rfl (W.nx (WC.seq (WC.sr (W.run 1 rfl ?_))))))))
 refine W.r (.len Tryz.underlying24 rfl) ?_
 refine W.run 1 rfl (W.nx (WC.block ?_))
 refine WC.loop (ι := Nat) (fun k => [(3, .int .i64 (0)), (6, .slice A n c), (7, .int .i64 (((n : Nat) : Int))), (8, .int .i64 (((k : Nat) : Int)))]) (fun k wl0 => (k ≤ n) ∧ (∀ j, j < k → xs.getD j 0 = 0) ∧ Le w wl0 ∧ w.heap.size ≤ wl0.heap.size) (fun k => n - k) 0 ?_ ?_ ?_
 ·exact .cons rfl (.cons rfl (.cons rfl (.cons rfl (.nil _))))
 ·exact ⟨Nat.zero_le _, fun j hj => absurd hj (Nat.not_lt_zero _), L0, Nat.le_refl _⟩
 rintro k wl0 ⟨hk, hz, Ll0, zl0⟩
 refine WC.sr (W.run 1 rfl (W.nx (WC.seq ?_)))
 by_cases c0 : ((k : Nat) : Int) < ((n : Nat) : Int)
 ·refine WC.condY rfl (decide_eq_true c0) ?_
  refine WC.sn (WC.seq (WC.block (WC.sr ?_)))
  refine W.a (.idxS (k) Tryz.underlying24 sz3 rfl rfl (hV.isSome iv_row (by omega)) (rfl) (by omega)) ?_
  refine W.r (.vone (v := .int .i64 ((xs.getD k 0))) na3 rfl (hV.le Ll0) iv_row (getS xs 0 (by omega)) rfl) ?_
  refine W.run 1 rfl (W.nx (WC.sr (W.run 3 rfl (W.nx ?_))))
  by_cases c1 : (xs.getD k 0) ≠ 0
  ·refine WC.condY rfl (decide_eq_true c1) ?_
   refine WC.sr (W.run 2 rfl (W.nx (WC.ret (E.blkR (E.thenR (E.thenR (E.blkR (E.thenR ?_))))))))
   refine E.retG1 rfl rfl ?_
   exact ⟨by rw [orL_skip xs k hz, List.drop_eq_getElem_cons (by omega), orL, if_pos (by simpa [List.getD, show k < xs.length by omega] using c1)]; simp [List.getD, show k < xs.length by omega], Ll0⟩
  refine WC.condN rfl (decide_eq_false c1) ?_
  refine WC.skip (E.blkN (E.thenN (WC.region ?_)))
  refine W.a (.add rfl rfl (by omega)) ?_
  refine W.run 1 rfl (W.nil ?_)
  refine E.again (k + 1) (.cons rfl (.cons rfl (.cons rfl (.cons rfl (.nil _))))) ?_ ?_
  ·exact ⟨by omega, fun j hj => by rcases Nat.lt_or_ge j k with h | h; exact hz j h; rw [show j = k by omega]; exact Decidable.not_not.1 c1, Ll0, by have := zl0; omega⟩
  first | omega | (simp only []; omega)
 refine WC.condN rfl (decide_eq_false c0) ?_
 refine WC.exit (E.thenX (E.thenX (E.blkH (E.thenN (WC.sr (W.run 2 rfl (W.nx (WC.ret ?_))))))))
 refine E.retG1 rfl rfl ?_
 exact ⟨by rw [orL_skip xs k hz, List.drop_of_length_le (by omega)]; rfl, Ll0⟩

theorem order_ok (a b : Gsp.Edge) (w : World) : Calls Tryz.prog 63 #[.agg (edgeV a).toArray, .agg (edgeV b).toArray] w fun r w' => r = .returned (.int .i64 (ordE a b)) ∧ Le w w' := by
 refine enter Tryz.func63 rfl rfl ?_
 have L0 := Le.refl w
 refine WC.sr (W.ef rfl rfl rfl ?_)
 refine Ef.boxA rfl ?_
 intro g0_0 w0_0 hg0_0 b0_0 h0_0
 have L1 := L0.trans h0_0
 have b0_0 : Blk w0_0 g0_0 51 (edgeV a).toArray := b0_0
 refine W.ef rfl rfl rfl ?_
 refine Ef.boxA rfl ?_
 intro g0_1 w0_1 hg0_1 b0_1 h0_1
 have L2 := L1.trans h0_1
 have b0_1 : Blk w0_1 g0_1 51 (edgeV b).toArray := b0_1
 refine W.run 1 rfl (W.nx (WC.seq ?_))
 refine WC.draw [0, 1, 2, 3, 5, 6, 7, 8, 4, 9, 10, 11, 12] mixed (by kernel_rfl) ?_
 intro w1 d1
 have L3 := L2.trans d1
 refine G.a rfl (.field0 fa51_2 rfl) ?_
 have f4 := (b0_0.le (h0_1.trans d1))
 refine G.r rfl (.loadB (v := .int .i64 (a.c)) na3 rfl f4 rfl) ?_
 refine G.a rfl (.field0 fa51_2 rfl) ?_
 have f5 := (b0_1.le d1)
 refine G.r rfl (.loadB (v := .int .i64 (b.c)) na3 rfl f5 rfl) ?_
 refine G.a rfl (.field0 fa51_0 rfl) ?_
 refine G.r rfl (.loadB (v := .int .i64 (a.f)) na3 rfl f4 rfl) ?_
 refine G.a rfl (.field0 fa51_0 rfl) ?_
 refine G.r rfl (.loadB (v := .int .i64 (b.f)) na3 rfl f5 rfl) ?_
 refine G.ef rfl rfl rfl rfl rfl ?_
 refine Ef.call go76 rfl rfl (compare_ok a.c b.c w1) ?_
 rintro _ w1_4 ⟨rfl, h1_4⟩
 refine ⟨_, rfl, ?_⟩
 refine ⟨fun _ => h1_4, ?_⟩
 have L6 := L3.trans h1_4
 refine G.ef rfl rfl rfl rfl rfl ?_
 refine Ef.call go76 rfl rfl (compare_ok a.f b.f w1_4) ?_
 rintro _ w1_9 ⟨rfl, h1_9⟩
 refine ⟨_, rfl, ?_⟩
 refine ⟨fun _ => h1_9, ?_⟩
 have L7 := L6.trans h1_9
 refine G.ef rfl rfl rfl rfl rfl ?_
 refine Ef.buildSliceV (len := 2) [_, _] Tryz.underlying24 el3 rfl (by simp [Value.cells]) rfl (by decide) (by decide) ?_
 intro g1_10 w1_10 hg1_10 b1_10 h1_10
 refine ⟨fun _ => h1_10, ?_⟩
 have L8 := L7.trans h1_10
 have b1_10 : Blk w1_10 g1_10 3 (([(cmpI a.c b.c), (cmpI a.f b.f)]).map iv).flatten.toArray := b1_10
 have o1_10 : OVec w1_10 w1_9.heap.size 3 iv 1 (some ⟨g1_10, 0, none⟩) 2 2 ([(cmpI a.c b.c), (cmpI a.f b.f)]) := b1_10.ovec hg1_10 iv_row rfl rfl (by decide)
 refine G.ef rfl rfl rfl rfl rfl ?_
 refine Ef.call go77 rfl rfl (or2_ok w1_10 o1_10.vec (by decide)) ?_
 rintro _ w1_11 ⟨rfl, h1_11⟩
 refine ⟨_, rfl, ?_⟩
 refine ⟨fun _ => h1_11, ?_⟩
 have L9 := L8.trans h1_11
 refine G.run 1 rfl (G.nil (E.thenN (WC.ret ?_)))
 refine E.retG1 rfl rfl ?_
 exact ⟨by simp only [orL, ordE]; split <;> first | rfl | (split <;> simp_all), L9⟩
end Go.Proofs.YtmkdeemjkcigkaaGreatDoor

namespace Go.Proofs.YtmkdeemjkcigkaaGreatDoor
open Go Go.Sx Go.Hsp Go.Num Go.Osp Go.Gsp
set_option maxRecDepth 20000
theorem filter_T {pr : Gsp.Edge → Bool} (xs : List Gsp.Edge) (k : Nat) (hk : k < xs.length) (h : pr (xs.getD k noEdge) = true) : (xs.take k).filter pr ++ [xs.getD k noEdge] = (xs.take (k + 1)).filter pr := by
  rw [List.take_add_one, getS xs noEdge hk, List.filter_append]
  simp [List.filter_cons, -List.getD_eq_getElem?_getD, h]
theorem filter_F {pr : Gsp.Edge → Bool} (xs : List Gsp.Edge) (k : Nat) (hk : k < xs.length) (h : ¬ pr (xs.getD k noEdge) = true) : (xs.take k).filter pr = (xs.take (k + 1)).filter pr := by
  rw [List.take_add_one, getS xs noEdge hk, List.filter_append]
  simp [List.filter_cons, -List.getD_eq_getElem?_getD, h]
def idxE (pr : Gsp.Edge → Bool) (xs : List Gsp.Edge) : Int := if xs.any pr then (xs.findIdx pr : Int) else -1
theorem idxE_at {pr : Gsp.Edge → Bool} {xs : List Gsp.Edge} {k : Nat} (hk : k < xs.length) (hb : ∀ j, j < k → ¬ pr (xs.getD j noEdge) = true) (h : pr (xs.getD k noEdge) = true) : (k : Int) = idxE pr xs := by
  have hx : xs.getD k noEdge = xs[k] := by simp [List.getD, hk]
  have : xs.findIdx pr = k := by
    rw [List.findIdx_eq hk]
    exact ⟨by rw [← hx]; exact h, fun j hj => by have := hb j hj; simpa [List.getD, show j < xs.length by omega] using this⟩
  rw [idxE, if_pos (by rw [List.any_eq_true]; exact ⟨xs[k], List.getElem_mem hk, by rw [← hx]; exact h⟩), this]
theorem idxE_no {pr : Gsp.Edge → Bool} {xs : List Gsp.Edge} {k : Nat} (hk : xs.length ≤ k) (hb : ∀ j, j < k → j < xs.length → ¬ pr (xs.getD j noEdge) = true) : -1 = idxE pr xs := by
  rw [idxE, if_neg]
  rw [List.any_eq_true]
  rintro ⟨y, hy, hp⟩
  obtain ⟨j, hj, rfl⟩ := List.mem_iff_getElem.1 hy
  exact hb j (by omega) hj (by simpa [List.getD, hj] using hp)
def Been (bs : List Bool) (xs : List Gsp.Edge) (k : Nat) : Prop := ∀ v : Nat, v < 12 → (bs.getD v false = true ↔ ∃ j, j < k ∧ ((xs.getD j noEdge).f = (v : Int) ∨ (xs.getD j noEdge).t = (v : Int)))
theorem been_first (xs : List Gsp.Edge) : Been (List.replicate 12 false) xs 0 := fun v hv => ⟨fun h => absurd h (by rw [show (List.replicate 12 false).getD v false = false from (show ∀ v, v < 12 → (List.replicate 12 false).getD v false = false by decide) v hv]; decide), fun ⟨j, hj, _⟩ => absurd hj (Nat.not_lt_zero _)⟩
theorem been_next {bs : List Bool} {xs : List Gsp.Edge} {k : Nat} (hb : bs.length = 12) (h1 : edgeOk (xs.getD k noEdge) = true) (hd : Been bs xs k) : Been ((bs.set (xs.getD k noEdge).f.toNat true).set (xs.getD k noEdge).t.toNat true) xs (k + 1) := by
  have hok := edgeOk_T h1
  intro v hv
  have e : ((bs.set (xs.getD k noEdge).f.toNat true).set (xs.getD k noEdge).t.toNat true).getD v false = true ↔ ((xs.getD k noEdge).t.toNat = v ∨ (xs.getD k noEdge).f.toNat = v ∨ bs.getD v false = true) := by
    simp only [List.getD, List.getElem?_set, List.length_set, hb]
    by_cases h2 : (xs.getD k noEdge).t.toNat = v
    · simp only [List.getD] at h2; simp [h2, hv]
    · by_cases h3 : (xs.getD k noEdge).f.toNat = v
      · simp only [List.getD] at h2 h3; simp [h2, h3, hv]
      · simp only [List.getD] at h2 h3; simp [h2, h3]
  rw [e, hd v hv]
  constructor
  · rintro (h | h | ⟨j, hj, h⟩)
    · exact ⟨k, by omega, .inr (by omega)⟩
    · exact ⟨k, by omega, .inl (by omega)⟩
    · exact ⟨j, by omega, h⟩
  · rintro ⟨j, hj, h⟩
    by_cases hjk : j = k
    · subst hjk; rcases h with h | h <;> omega
    · exact .inr (.inr ⟨j, by omega, h⟩)
theorem way_next {bs : List Bool} {xs : List Gsp.Edge} {k : Nat} (hz : ∀ j, j < k → WayAt xs j) (h1 : edgeOk (xs.getD k noEdge) = true) (hl : 0 < k → (xs.getD (k - 1) noEdge).t = (xs.getD k noEdge).f) (hd : Been bs xs k) (hn : ¬ bs.getD (xs.getD k noEdge).t.toNat false = true) : ∀ j, j < k + 1 → WayAt xs j := by
  intro j hj
  by_cases hjk : j = k
  · subst hjk
    have hok := edgeOk_T h1
    refine ⟨h1, hl, fun q hq he => ?_⟩
    by_cases hqj : q = j
    · subst hqj; exact hok.2.2.1 he
    · exact hn ((hd _ (by omega)).2 ⟨q, by omega, .inl (by omega)⟩)
  · exact hz j (by omega)
theorem way_fail {bs : List Bool} {xs : List Gsp.Edge} {k : Nat} (hz : ∀ j, j < k → WayAt xs j) (hd : Been bs xs k) (hn : bs.getD (xs.getD k noEdge).t.toNat false = true) : ¬ WayAt xs k := fun ⟨h1, hl, hw⟩ => by
  have hok := edgeOk_T h1
  obtain ⟨j, hj, h | h⟩ := (hd _ (by omega)).1 hn
  · exact hw j (by omega) (by omega)
  · have hj1 : (xs.getD (j + 1) noEdge).f = (xs.getD j noEdge).t := by
      by_cases hjk : j + 1 = k
      · have := hl (by omega); rw [show k - 1 = j by omega] at this; rw [hjk]; exact this.symm
      · have := (hz (j + 1) (by omega)).2.1 (by omega); rw [show j + 1 - 1 = j by omega] at this; exact this.symm
    exact hw (j + 1) (by omega) (by rw [hj1]; omega)
theorem those_ok {A : Option Addr} {n c : Nat} {xs : List Gsp.Edge} {F : Nat} {caps : Array Value} (pr : Gsp.Edge → Bool) (hgo : IsGo Tryz.prog F) (w : World) (hV : Vec w edgeV 9 A n xs) (hn : n ≤ 1000000) (hf : ∀ (e : Gsp.Edge) (w1 : World), Le w w1 → Calls Tryz.prog F (#[.agg (edgeV e).toArray] ++ caps) w1 fun r w2 => r = .returned (.bool (pr e)) ∧ Le w1 w2) : Calls Tryz.prog 78 #[.slice A n c, .func (.func F) #[] caps] w fun r w' => ∃ A' c', r = .returned (.slice A' (xs.filter pr).length c') ∧ OVec w' w.heap.size 51 edgeV 9 A' (xs.filter pr).length c' (xs.filter pr) ∧ Le w w' := by
 have hl := hV.1
 refine enter Tryz.func78 rfl rfl ?_
 have L0 := Le.refl w
 refine WC.sr (W.run 1 rfl (W.nx (WC.sr (W.run 1 rfl (W.nx (WC.seq (WC.sr (W.run 1 rfl ?_))))))))
 refine W.r (.len Tryz.underlying22 rfl) ?_
 refine W.run 1 rfl (W.nx (WC.block ?_))
 refine WC.loop (ι := Nat × (Option Addr) × Nat) (fun ⟨k, Aa, ca⟩ => [(1, .func (.func F) #[] caps), (5, .slice Aa (((xs.take k).filter pr).length) ca), (8, .slice A n c), (9, .int .i64 (((n : Nat) : Int))), (10, .int .i64 (((k : Nat) : Int)))]) (fun ⟨k, Aa, ca⟩ wl0 => (k ≤ n) ∧ Le w wl0 ∧ w.heap.size ≤ wl0.heap.size ∧ OVec wl0 w.heap.size 51 edgeV 9 Aa (((xs.take k).filter pr).length) ca ((xs.take k).filter pr)) (fun ⟨k, Aa, ca⟩ => n - k) (0, none, 0) ?_ ?_ ?_
 ·exact .cons rfl (.cons rfl (.cons rfl (.cons rfl (.cons rfl (.nil _)))))
 ·exact ⟨by omega, L0, Nat.le_refl _, (OVec.nil w w.heap.size 51 edgeV 9 none)⟩
 rintro ⟨k, Aa, ca⟩ wl0 ⟨hk, Ll0, zl0, f0_0⟩
 have lb0_2 : w.heap.size ≤ wl0.heap.size := by omega
 refine WC.sr (W.run 1 rfl (W.nx (WC.seq ?_)))
 by_cases c0 : ((k : Nat) : Int) < ((n : Nat) : Int)
 ·refine WC.condY rfl (decide_eq_true c0) ?_
  refine WC.sn (WC.seq (WC.block (WC.sr ?_)))
  refine W.a (.idxS (k) Tryz.underlying22 sz51 rfl rfl (hV.isSome edgeV_row (by omega)) (rfl) (by omega)) ?_
  refine W.r (.vload ag51 rfl (hV.le Ll0) edgeV_row (getS xs noEdge (by omega))) ?_
  refine W.ef rfl rfl rfl ?_
  refine Ef.allocA z51 ?_
  intro g4_2 w4_2 hg4_2 b4_2 h4_2
  have L1 := Ll0.trans h4_2
  have b4_2 : Blk w4_2 g4_2 51 (edgeV noEdge).toArray := b4_2
  refine W.ef0 rfl rfl ?_
  refine Ef.storeAll sz51 (by rfl) rfl rfl b4_2 (by simp only [List.size_toArray, edgeV_row.len]) (edgeV_row.one (xs.getD k noEdge)) ?_
  intro w4_3 b4_3 h4_3
  have b4_3 : Blk w4_3 g4_2 51 (edgeV (xs.getD k noEdge)).toArray := b4_3
  have L2 := L1.then_ h4_3 (fun q hq => by cases hq; exact Nat.le_trans Ll0.size hg4_2)
  refine W.nx (WC.sr (W.run 1 rfl ?_))
  refine W.r (.loadAll ag51 (by rfl) rfl b4_3) ?_
  refine W.ef rfl rfl rfl ?_
  refine Ef.callC hgo rfl rfl rfl (hf _ _ L2) ?_
  rintro _ w5_2 ⟨rfl, h5_2⟩
  refine ⟨_, rfl, ?_⟩
  have L3 := L2.trans h5_2
  refine W.nx ?_
  by_cases c1 : (pr (xs.getD k noEdge)) = true
  ·refine WC.condY rfl (c1) ?_
   refine WC.region (W.run 1 rfl ?_)
   have f4 := (b4_3.le h5_2)
   refine W.r (.loadAll ag51 (by rfl) rfl f4) ?_
   refine W.ef rfl rfl rfl ?_
   refine Ef.buildSliceV (len := 1) [_] Tryz.underlying22 el51 rfl (by simp [Value.cells, edgeV_row.len]) rfl (by decide) (by decide) ?_
   intro g6_2 w6_2 hg6_2 b6_2 h6_2
   have L5 := L3.trans h6_2
   have b6_2 : Blk w6_2 g6_2 51 (([xs.getD k noEdge]).map edgeV).flatten.toArray := b6_2
   have o6_2 : OVec w6_2 w5_2.heap.size 51 edgeV 9 (some ⟨g6_2, 0, none⟩) 1 1 ([xs.getD k noEdge]) := b6_2.ovec hg6_2 edgeV_row rfl rfl (by decide)
   have f6 := (((f0_0.le h4_2).ch h4_3 (fun q hq => by cases hq; exact (fun he => by have := (f0_0.row he).2; omega))).le (h5_2.trans h6_2))
   refine W.ef rfl rfl rfl ?_
   refine Ef.vpush (a := (xs.getD k noEdge)) Tryz.underlying22 el51 Tryz.underlying22 edgeV_row rfl f6 rfl b6_2 (by have := List.length_filter_le pr (xs.take k); simp at this; omega) (by have := List.length_filter_le pr (xs.take k); simp at this; unfold maxLen; omega) (by have := lb0_2; have := h4_2.size; have := h4_3.size; have := h5_2.size; have := h6_2.size; omega) ?_
   intro A6_3 c6_3 w6_3 o6_3 h6_3 at6_3
   have L7 := L5.then_ h6_3 (fun q hq => Nat.le_trans L0.size (f6.row hq).1)
   refine W.run 1 rfl (W.nil (E.blkN (E.thenN (WC.region ?_))))
   refine W.a (.add rfl rfl (by omega)) ?_
   refine W.run 1 rfl (W.nil ?_)
   refine E.again (k + 1, A6_3, c6_3) (.cons rfl (.cons' rfl (slice_eq (by rw [← filter_T xs k (by omega) c1]; simp)) (.cons rfl (.cons rfl (.cons rfl (.nil _)))))) ?_ ?_
   ·exact ⟨by omega, L7, by have := zl0; have := h4_2.size; have := h4_3.size; have := h5_2.size; have := h6_2.size; have := h6_3.size; omega, (o6_3).cast (by rw [← filter_T xs k (by omega) c1]; simp) (filter_T xs k (by omega) c1)⟩
   first | omega | (simp only []; omega)
  refine WC.condN rfl ((Bool.eq_false_iff.2 c1)) ?_
  refine WC.skip (E.blkN (E.thenN (WC.region ?_)))
  refine W.a (.add rfl rfl (by omega)) ?_
  refine W.run 1 rfl (W.nil ?_)
  have f8 := (((f0_0.le h4_2).ch h4_3 (fun q hq => by cases hq; exact (fun he => by have := (f0_0.row he).2; omega))).le h5_2)
  refine E.again (k + 1, Aa, ca) (.cons rfl (.cons' rfl (slice_eq (by rw [← filter_F xs k (by omega) c1])) (.cons rfl (.cons rfl (.cons rfl (.nil _)))))) ?_ ?_
  ·exact ⟨by omega, L3, by have := zl0; have := h4_2.size; have := h4_3.size; have := h5_2.size; omega, (f8).cast (by rw [← filter_F xs k (by omega) c1]) (filter_F xs k (by omega) c1)⟩
  first | omega | (simp only []; omega)
 refine WC.condN rfl (decide_eq_false c0) ?_
 refine WC.exit (E.thenX (E.thenX (E.blkH (E.thenN (WC.sr (W.run 2 rfl (W.nx (WC.ret ?_))))))))
 refine E.retG1 rfl rfl ?_
 exact ⟨_, _, by rw [List.take_of_length_le (by omega)], f0_0.cast (by rw [List.take_of_length_le (by omega)]) (by rw [List.take_of_length_le (by omega)]), Ll0⟩





theorem in1_ok (e : Gsp.Edge) (p : Int) {g : Nat} (w : World) (hg : Blk w g 3 #[.int .i64 p]) : Calls Tryz.prog 79 #[.agg (edgeV e).toArray, .pointer (some ⟨g, 0, none⟩)] w fun r w' => r = .returned (.bool (decide (e.t = p))) ∧ Le w w' := by
 refine enter Tryz.func79 rfl rfl ?_
 have L0 := Le.refl w
 refine WC.sr (W.ef rfl rfl rfl ?_)
 refine Ef.boxA rfl ?_
 intro g0_0 w0_0 hg0_0 b0_0 h0_0
 have L1 := L0.trans h0_0
 have b0_0 : Blk w0_0 g0_0 51 (edgeV e).toArray := b0_0
 refine W.run 1 rfl (W.nx (WC.sr ?_))
 refine W.a (.field0 fa51_1 rfl) ?_
 refine W.r (.loadB (v := .int .i64 (e.t)) na3 rfl b0_0 rfl) ?_
 refine W.r (.loadB (v := .int .i64 (p)) na3 rfl (hg.le L1) rfl) ?_
 refine W.run 2 rfl (W.nx (WC.ret ?_))
 refine E.retG1 rfl rfl ?_
 exact ⟨rfl, L1⟩

theorem in_ok (p : Int) {A : Option Addr} {n c : Nat} {xs : List Gsp.Edge} (w : World) (hV : Vec w edgeV 9 A n xs) (hn : n ≤ 1000000) : Calls Tryz.prog 39 #[.slice A n c, .int .i64 (p)] w fun r w' => ∃ A' c', r = .returned (.slice A' (xs.filter (fun e => decide (e.t = p))).length c') ∧ OVec w' w.heap.size 51 edgeV 9 A' (xs.filter (fun e => decide (e.t = p))).length c' (xs.filter (fun e => decide (e.t = p))) ∧ Le w w' := by
 refine enter Tryz.func39 rfl rfl ?_
 have L0 := Le.refl w
 refine WC.sr (W.ef rfl rfl rfl ?_)
 refine Ef.box rfl ?_
 intro g0_0 w0_0 hg0_0 b0_0 h0_0
 have L1 := L0.trans h0_0
 have b0_0 : Blk w0_0 g0_0 3 #[.int .i64 (p)] := b0_0
 refine W.run 1 rfl (W.nx (WC.sr (W.run 1 rfl ?_)))
 refine W.a (.makeFunc rfl) ?_
 refine W.cl go78 rfl rfl (those_ok (fun e => decide (e.t = p)) go79 w0_0 (hV.le L1) (by omega) (fun e w1 hl => in1_ok e p w1 (b0_0.le hl))) ?_
 rintro _ w1_2 ⟨At1_2, ct1_2, rfl, ot1_2, h1_2⟩
 have L3 := L1.trans h1_2
 refine W.run 1 rfl (W.nx (WC.ret ?_))
 refine E.retG1 rfl rfl ?_
 exact ⟨_, _, rfl, ot1_2.mono h0_0.size, L3⟩

theorem index_ok {A : Option Addr} {n c : Nat} {xs : List Gsp.Edge} {F : Nat} {caps : Array Value} (pr : Gsp.Edge → Bool) (hgo : IsGo Tryz.prog F) (w : World) (hV : Vec w edgeV 9 A n xs) (hn : n ≤ 1000000) (hf : ∀ (e : Gsp.Edge) (w1 : World), Le w w1 → Calls Tryz.prog F (#[.agg (edgeV e).toArray] ++ caps) w1 fun r w2 => r = .returned (.bool (pr e)) ∧ Le w1 w2) : Calls Tryz.prog 65 #[.slice A n c, .func (.func F) #[] caps] w fun r w' => r = .returned (.int .i64 (idxE pr xs)) ∧ Le w w' := by
 have hl := hV.1
 refine enter Tryz.func65 rfl rfl ?_
 have L0 := Le.refl w
 refine WC.sr (W.run 1 rfl (W.nx (WC.seq (WC.sr (W.run 1 rfl ?_)))))
 refine W.r (.len Tryz.underlying22 rfl) ?_
 refine W.run 1 rfl (W.nx (WC.block ?_))
 refine WC.loop (ι := Nat) (fun k => [(0, .slice A n c), (1, .func (.func F) #[] caps), (7, .int .i64 (((n : Nat) : Int))), (8, .int .i64 (((k : Nat) : Int)))]) (fun k wl0 => (k ≤ n) ∧ (∀ j, j < k → ¬ pr (xs.getD j noEdge) = true) ∧ Le w wl0 ∧ w.heap.size ≤ wl0.heap.size) (fun k => n - k) 0 ?_ ?_ ?_
 ·exact .cons rfl (.cons rfl (.cons rfl (.cons rfl (.nil _))))
 ·exact ⟨Nat.zero_le _, fun j hj => absurd hj (Nat.not_lt_zero _), L0, Nat.le_refl _⟩
 rintro k wl0 ⟨hk, hz, Ll0, zl0⟩
 refine WC.sr (W.run 1 rfl (W.nx (WC.seq ?_)))
 by_cases c0 : ((k : Nat) : Int) < ((n : Nat) : Int)
 ·refine WC.condY rfl (decide_eq_true c0) ?_
  refine WC.sn (WC.seq (WC.block (WC.sr (W.run 2 rfl (W.nx (WC.sr (W.run 3 rfl ?_)))))))
  refine W.a (.idxS (k) Tryz.underlying22 sz51 rfl rfl (hV.isSome edgeV_row (by omega)) (rfl) (by omega)) ?_
  refine W.r (.vload ag51 rfl (hV.le Ll0) edgeV_row (getS xs noEdge (by omega))) ?_
  refine W.ef rfl rfl rfl ?_
  refine Ef.callC hgo rfl rfl rfl (hf _ _ Ll0) ?_
  rintro _ w4_5 ⟨rfl, h4_5⟩
  refine ⟨_, rfl, ?_⟩
  have L1 := Ll0.trans h4_5
  refine W.nx ?_
  by_cases c1 : (pr (xs.getD k noEdge)) = true
  ·refine WC.condY rfl (c1) ?_
   refine WC.sr (W.run 2 rfl (W.nx (WC.ret (E.blkR (E.thenR (E.thenR (E.blkR (E.thenR ?_))))))))
   refine E.retG1 rfl rfl ?_
   exact ⟨by rw [idxE_at (by omega) hz c1], L1⟩
  refine WC.condN rfl ((Bool.eq_false_iff.2 c1)) ?_
  refine WC.skip (E.blkN (E.thenN (WC.region ?_)))
  refine W.a (.add rfl rfl (by omega)) ?_
  refine W.run 1 rfl (W.nil ?_)
  refine E.again (k + 1) (.cons rfl (.cons rfl (.cons rfl (.cons rfl (.nil _))))) ?_ ?_
  ·exact ⟨by omega, fun j hj => by rcases Nat.lt_or_ge j k with h | h; exact hz j h; rw [show j = k by omega]; exact c1, L1, by have := zl0; have := h4_5.size; omega⟩
  first | omega | (simp only []; omega)
 refine WC.condN rfl (decide_eq_false c0) ?_
 refine WC.exit (E.thenX (E.thenX (E.blkH (E.thenN (WC.sr (W.run 1 rfl (W.nx (WC.ret ?_))))))))
 refine E.retG1 rfl rfl ?_
 exact ⟨by rw [idxE_no (k := k) (by omega) (fun j h1 _ => hz j h1)], Ll0⟩

theorem gright_ok {A : Option Addr} {n c : Nat} {xs : List Gsp.Edge} (w : World) (hV : Vec w edgeV 9 A n xs) (hn : n ≤ 1000000) : Calls Tryz.prog 24 #[.slice A n c] w fun r w' => r = .returned (.bool (rightG xs)) ∧ Le w w' := by
 have hl := hV.1
 refine enter Tryz.func24 rfl rfl ?_
 have L0 := Le.refl w
 refine WC.sr (W.run 1 rfl (W.nx (WC.seq (WC.sr (W.run 1 rfl ?_)))))
 refine W.r (.len Tryz.underlying22 rfl) ?_
 refine W.run 1 rfl (W.nx (WC.block ?_))
 refine WC.loop (ι := Nat) (fun k => [(0, .slice A n c), (6, .slice A n c), (7, .int .i64 (((n : Nat) : Int))), (8, .int .i64 (((k : Nat) : Int)))]) (fun k wl0 => (k ≤ n) ∧ (∀ j, j < k → RightAt xs j) ∧ Le w wl0 ∧ w.heap.size ≤ wl0.heap.size) (fun k => n - k) 0 ?_ ?_ ?_
 ·exact .cons rfl (.cons rfl (.cons rfl (.cons rfl (.nil _))))
 ·exact ⟨Nat.zero_le _, fun j hj => absurd hj (Nat.not_lt_zero _), L0, Nat.le_refl _⟩
 rintro k wl0 ⟨hk, hz, Ll0, zl0⟩
 refine WC.sr (W.run 1 rfl (W.nx (WC.seq ?_)))
 by_cases c0 : ((k : Nat) : Int) < ((n : Nat) : Int)
 ·refine WC.condY rfl (decide_eq_true c0) ?_
  refine WC.sn (WC.seq (WC.block (WC.sr (W.run 1 rfl ?_))))
  refine W.a (.idxS (k) Tryz.underlying22 sz51 rfl rfl (hV.isSome edgeV_row (by omega)) (rfl) (by omega)) ?_
  refine W.r (.vload ag51 rfl (hV.le Ll0) edgeV_row (getS xs noEdge (by omega))) ?_
  refine W.ef rfl rfl rfl ?_
  refine Ef.allocA z51 ?_
  intro g3_3 w3_3 hg3_3 b3_3 h3_3
  have L1 := Ll0.trans h3_3
  have b3_3 : Blk w3_3 g3_3 51 (edgeV noEdge).toArray := b3_3
  refine W.run 1 rfl ?_
  refine W.ef0 rfl rfl ?_
  refine Ef.storeAll sz51 (by rfl) rfl rfl b3_3 (by simp only [List.size_toArray, edgeV_row.len]) (edgeV_row.one (xs.getD k noEdge)) ?_
  intro w3_5 b3_5 h3_5
  have b3_5 : Blk w3_5 g3_3 51 (edgeV (xs.getD k noEdge)).toArray := b3_5
  have L2 := L1.then_ h3_5 (fun q hq => by cases hq; exact Nat.le_trans Ll0.size hg3_3)
  refine W.nx (WC.seq (WC.seq ?_))
  refine WC.draw [0, 1, 2, 3, 4, 5, 6, 7, 8, 9, 10, 11, 12, 13, 14, 15, 16] mixed (by kernel_rfl) ?_
  intro w4 d4
  have L3 := L2.trans d4
  have f4 := (b3_5.le d4)
  refine G.r rfl (.loadAll ag51 (by rfl) rfl f4) ?_
  refine G.ef rfl rfl rfl rfl rfl ?_
  refine Ef.call go62 rfl rfl (edge_ok (xs.getD k noEdge) w4) ?_
  rintro _ w4_1 ⟨rfl, h4_1⟩
  refine ⟨_, rfl, ?_⟩
  refine ⟨fun _ => h4_1, ?_⟩
  have L5 := L3.trans h4_1
  refine G.run 1 rfl ?_
  by_cases q4_3 : (edgeOk (xs.getD k noEdge)) = true
  ·refine G.a rfl (.dec (.move rfl) (congrArg not (q4_3))) ?_
   refine G.run 2 rfl ?_
   by_cases q4_6 : 0 < ((k : Nat) : Int)
   ·refine G.ag rfl (.dec (.move rfl) (decide_eq_true q4_6)) ?_
    refine G.run 2 rfl ?_
    refine G.ag rfl (.sub rfl rfl (by omega)) ?_
    refine G.ag rfl (.idxS ((k - 1)) Tryz.underlying22 sz51 rfl rfl (hV.isSome edgeV_row (by omega)) (by omega) (by omega)) ?_
    refine G.rg rfl (.vload ag51 rfl (hV.le L5) edgeV_row (getS xs noEdge (by omega))) ?_
    have f6 := (f4.le h4_1)
    refine G.rg rfl (.loadAll ag51 (by rfl) rfl f6) ?_
    refine G.efg rfl rfl rfl rfl rfl (rfl) rfl rfl ?_
    refine Ef.call go63 rfl rfl (order_ok (xs.getD (k - 1) noEdge) (xs.getD k noEdge) w4_1) ?_
    rintro _ w4_13 ⟨rfl, h4_13⟩
    refine ⟨_, rfl, ?_⟩
    refine ⟨fun _ => h4_13, ?_⟩
    have L7 := L5.trans h4_13
    refine G.run 1 rfl ?_
    refine G.ag rfl (.pickT rfl rfl rfl) ?_
    refine G.run 1 rfl (G.nil (E.thenN ?_))
    by_cases c1 : 0 ≤ (ordE (xs.getD (k - 1) noEdge) (xs.getD k noEdge))
    ·refine WC.condY rfl (decide_eq_true c1) ?_
     refine WC.sr (W.run 1 rfl (W.nx (WC.ret (E.thenR (E.blkR (E.thenR (E.thenR (E.blkR (E.thenR ?_)))))))))
     refine E.retG1 rfl rfl ?_
     exact ⟨rB (decide_eq_false (fun hr => by have hr := hr k (by omega); unfold RightAt at hr; first | exact absurd hr.1 (by assumption) | (have h2 := hr.2; clear hr; omega))).symm, L7⟩
    refine WC.condN rfl (decide_eq_false c1) ?_
    refine WC.sn (WC.seq (WC.seq ?_))
    refine WC.draw [0, 1, 2, 3, 4, 5, 6, 7, 8, 9, 10, 11, 12] mixed (by kernel_rfl) ?_
    intro w6 d6
    have L8 := L7.trans d6
    refine G.run 2 rfl ?_
    by_cases q6_2 : ((k : Nat) : Int) = 0
    ·refine G.a rfl (.dec (.move rfl) (decide_eq_true q6_2)) ?_
     refine G.run 10 rfl (G.nil (E.thenN (WC.condT rfl (WC.exit (E.thenX (E.blkH (E.thenN (WC.region ?_))))))))
     refine W.a (.add rfl rfl (by omega)) ?_
     refine W.run 1 rfl (W.nil ?_)
     refine E.again (k + 1) (.cons rfl (.cons rfl (.cons rfl (.cons rfl (.nil _))))) ?_ ?_
     ·exact ⟨by omega, fun j hj => by rcases Nat.lt_or_ge j k with h | h; exact hz j h; rw [show j = k by omega]; refine ⟨by assumption, fun _ => ?_, fun ⟨_, _⟩ => ⟨?_, ?_, ?_, ?_⟩⟩ <;> first | omega | (exfalso; omega) | (exact fun ⟨_, _⟩ => by omega), L8, by have := zl0; have := h3_3.size; have := h3_5.size; have := d4.size; have := h4_1.size; have := h4_13.size; have := d6.size; omega⟩
     first | omega | (simp only []; omega)
    refine G.a rfl (.dec (.move rfl) (decide_eq_false q6_2)) ?_
    refine G.run 2 rfl ?_
    refine G.ag rfl (.sub rfl rfl (by omega)) ?_
    refine G.ag rfl (.idxS ((k - 1)) Tryz.underlying22 sz51 rfl rfl (hV.isSome edgeV_row (by omega)) (by omega) (by omega)) ?_
    refine G.ag rfl (.vfield fa51_2 (hV.isSome edgeV_row (by omega)) rfl) ?_
    refine G.rg rfl (.vcell (j := (k - 1)) (o := 2) (v := .int .i64 ((xs.getD (k - 1) noEdge).c)) na3 rfl (hV.le L8) edgeV_row (getS xs noEdge (by omega)) rfl) ?_
    refine G.ag rfl (.field0 fa51_2 rfl) ?_
    have f9 := (f6.le (h4_13.trans d6))
    refine G.rg rfl (.loadB (v := .int .i64 ((xs.getD k noEdge).c)) na3 rfl f9 rfl) ?_
    refine G.run 2 rfl (G.nil (E.thenN ?_))
    by_cases c2 : ((xs.getD (k - 1) noEdge).c) ≠ ((xs.getD k noEdge).c)
    ·refine WC.condY rfl (decide_eq_true c2) ?_
     refine WC.exit (E.thenX (E.blkH (E.thenN (WC.region ?_))))
     refine W.a (.add rfl rfl (by omega)) ?_
     refine W.run 1 rfl (W.nil ?_)
     refine E.again (k + 1) (.cons rfl (.cons rfl (.cons rfl (.cons rfl (.nil _))))) ?_ ?_
     ·exact ⟨by omega, fun j hj => by rcases Nat.lt_or_ge j k with h | h; exact hz j h; rw [show j = k by omega]; refine ⟨by assumption, fun _ => ?_, fun ⟨_, _⟩ => ⟨?_, ?_, ?_, ?_⟩⟩ <;> first | omega | (exfalso; omega) | (exact fun ⟨_, _⟩ => by omega), L8, by have := zl0; have := h3_3.size; have := h3_5.size; have := d4.size; have := h4_1.size; have := h4_13.size; have := d6.size; omega⟩
     first | omega | (simp only []; omega)
    refine WC.condN rfl (decide_eq_false c2) ?_
    refine WC.sn (WC.sr (W.run 2 rfl ?_))
    refine W.a (.sub rfl rfl (by omega)) ?_
    refine W.a (.idxS ((k - 1)) Tryz.underlying22 sz51 rfl rfl (hV.isSome edgeV_row (by omega)) (by omega) (by omega)) ?_
    refine W.r (.vload ag51 rfl (hV.le L8) edgeV_row (getS xs noEdge (by omega))) ?_
    refine W.ef rfl rfl rfl ?_
    refine Ef.allocA z51 ?_
    intro g7_5 w7_5 hg7_5 b7_5 h7_5
    have L10 := L8.trans h7_5
    have b7_5 : Blk w7_5 g7_5 51 (edgeV noEdge).toArray := b7_5
    refine W.ef0 rfl rfl ?_
    refine Ef.storeAll sz51 (by rfl) rfl rfl b7_5 (by simp only [List.size_toArray, edgeV_row.len]) (edgeV_row.one (xs.getD (k - 1) noEdge)) ?_
    intro w7_6 b7_6 h7_6
    have b7_6 : Blk w7_6 g7_5 51 (edgeV (xs.getD (k - 1) noEdge)).toArray := b7_6
    have L11 := L10.then_ h7_6 (fun q hq => by cases hq; exact Nat.le_trans L8.size hg7_5)
    refine W.nx (WC.seq ?_)
    refine WC.draw [0, 1, 2, 3, 4, 5, 6, 7, 8, 9, 10, 11, 12, 13, 14, 15, 16, 17, 18, 19, 20, 21, 22, 23, 24, 25, 26, 27, 28, 29, 30, 31, 32, 33] mixed (by kernel_rfl) ?_
    intro w8 d8
    have L12 := L11.trans d8
    refine G.run 2 rfl ?_
    by_cases q8_2 : 1 < ((k : Nat) : Int)
    ·refine G.a rfl (.dec (.move rfl) (decide_eq_true q8_2)) ?_
     refine G.run 2 rfl ?_
     refine G.ag rfl (.sub rfl rfl (by omega)) ?_
     refine G.ag rfl (.idxS ((k - 2)) Tryz.underlying22 sz51 rfl rfl (hV.isSome edgeV_row (by omega)) (by omega) (by omega)) ?_
     refine G.ag rfl (.vfield fa51_2 (hV.isSome edgeV_row (by omega)) rfl) ?_
     refine G.rg rfl (.vcell (j := (k - 2)) (o := 2) (v := .int .i64 ((xs.getD (k - 2) noEdge).c)) na3 rfl (hV.le L12) edgeV_row (getS xs noEdge (by omega)) rfl) ?_
     refine G.ag rfl (.field0 fa51_2 rfl) ?_
     have f13 := (((f9.le h7_5).ch h7_6 (fun h => (show g7_5 ≠ g3_3 from by have := f9.lt; omega) (Option.some.inj h))).le d8)
     refine G.rg rfl (.loadB (v := .int .i64 ((xs.getD k noEdge).c)) na3 rfl f13 rfl) ?_
     refine G.run 2 rfl ?_
     by_cases q8_13 : ((xs.getD (k - 2) noEdge).c) = ((xs.getD k noEdge).c)
     ·refine G.a rfl (.dec (.move rfl) (decide_eq_true q8_13)) ?_
      refine G.run 20 rfl (G.nil (E.thenN (WC.condT rfl (WC.sr (W.run 1 rfl (W.nx (WC.ret (E.blkR (E.thenR (E.thenR (E.blkR (E.thenR ?_))))))))))))
      refine E.retG1 rfl rfl ?_
      exact ⟨rB (decide_eq_false (fun hr => by have hr := hr k (by omega); unfold RightAt at hr; first | exact absurd hr.1 (by assumption) | (have h2 := hr.2; clear hr; omega))).symm, L12⟩
     refine G.a rfl (.dec (.move rfl) (decide_eq_false q8_13)) ?_
     refine G.ag rfl (.field0 fa51_0 rfl) ?_
     have f14 := (b7_6.le d8)
     refine G.rg rfl (.loadB (v := .int .i64 ((xs.getD (k - 1) noEdge).f)) na3 rfl f14 rfl) ?_
     refine G.ag rfl (.field0 fa51_1 rfl) ?_
     refine G.rg rfl (.loadB (v := .int .i64 ((xs.getD k noEdge).t)) na3 rfl f13 rfl) ?_
     refine G.run 2 rfl ?_
     by_cases q8_20 : ((xs.getD (k - 1) noEdge).f) ≠ ((xs.getD k noEdge).t)
     ·refine G.a rfl (.dec (.move rfl) (decide_eq_true q8_20)) ?_
      refine G.run 13 rfl (G.nil (E.thenN (WC.condT rfl (WC.sr (W.run 1 rfl (W.nx (WC.ret (E.blkR (E.thenR (E.thenR (E.blkR (E.thenR ?_))))))))))))
      refine E.retG1 rfl rfl ?_
      exact ⟨rB (decide_eq_false (fun hr => by have hr := hr k (by omega); unfold RightAt at hr; first | exact absurd hr.1 (by assumption) | (have h2 := hr.2; clear hr; omega))).symm, L12⟩
     refine G.a rfl (.dec (.move rfl) (decide_eq_false q8_20)) ?_
     refine G.ag rfl (.field0 fa51_1 rfl) ?_
     refine G.rg rfl (.loadB (v := .int .i64 ((xs.getD (k - 1) noEdge).t)) na3 rfl f14 rfl) ?_
     refine G.ag rfl (.field0 fa51_0 rfl) ?_
     refine G.rg rfl (.loadB (v := .int .i64 ((xs.getD k noEdge).f)) na3 rfl f13 rfl) ?_
     refine G.run 2 rfl ?_
     by_cases q8_27 : ((xs.getD (k - 1) noEdge).t) ≠ ((xs.getD k noEdge).f)
     ·refine G.a rfl (.dec (.move rfl) (decide_eq_true q8_27)) ?_
      refine G.run 6 rfl (G.nil (E.thenN (WC.condT rfl (WC.sr (W.run 1 rfl (W.nx (WC.ret (E.blkR (E.thenR (E.thenR (E.blkR (E.thenR ?_))))))))))))
      refine E.retG1 rfl rfl ?_
      exact ⟨rB (decide_eq_false (fun hr => by have hr := hr k (by omega); unfold RightAt at hr; first | exact absurd hr.1 (by assumption) | (have h2 := hr.2; clear hr; omega))).symm, L12⟩
     refine G.a rfl (.dec (.move rfl) (decide_eq_false q8_27)) ?_
     refine G.ag rfl (.field0 fa51_3 rfl) ?_
     refine G.rg rfl (.loadB (v := .int .i64 ((xs.getD (k - 1) noEdge).r)) na3 rfl f14 rfl) ?_
     refine G.ag rfl (.field0 fa51_3 rfl) ?_
     refine G.rg rfl (.loadB (v := .int .i64 ((xs.getD k noEdge).r)) na3 rfl f13 rfl) ?_
     refine G.run 2 rfl (G.nil (E.thenN ?_))
     by_cases c3 : ((xs.getD (k - 1) noEdge).r) ≠ ((xs.getD k noEdge).r)
     ·refine WC.condY rfl (decide_eq_true c3) ?_
      refine WC.sr (W.run 1 rfl (W.nx (WC.ret (E.blkR (E.thenR (E.thenR (E.blkR (E.thenR ?_))))))))
      refine E.retG1 rfl rfl ?_
      exact ⟨rB (decide_eq_false (fun hr => by have hr := hr k (by omega); unfold RightAt at hr; first | exact absurd hr.1 (by assumption) | (have h2 := hr.2; clear hr; omega))).symm, L12⟩
     refine WC.condN rfl (decide_eq_false c3) ?_
     refine WC.skip (E.blkN (E.thenN (WC.region ?_)))
     refine W.a (.add rfl rfl (by omega)) ?_
     refine W.run 1 rfl (W.nil ?_)
     refine E.again (k + 1) (.cons rfl (.cons rfl (.cons rfl (.cons rfl (.nil _))))) ?_ ?_
     ·exact ⟨by omega, fun j hj => by rcases Nat.lt_or_ge j k with h | h; exact hz j h; rw [show j = k by omega]; refine ⟨by assumption, fun _ => ?_, fun ⟨_, _⟩ => ⟨?_, ?_, ?_, ?_⟩⟩ <;> first | omega | (exfalso; omega) | (exact fun ⟨_, _⟩ => by omega), L12, by have := zl0; have := h3_3.size; have := h3_5.size; have := d4.size; have := h4_1.size; have := h4_13.size; have := d6.size; have := h7_5.size; have := h7_6.size; have := d8.size; omega⟩
     first | omega | (simp only []; omega)
    refine G.a rfl (.dec (.move rfl) (decide_eq_false q8_2)) ?_
    refine G.run 11 rfl ?_
    refine G.ag rfl (.field0 fa51_0 rfl) ?_
    have f15 := (b7_6.le d8)
    refine G.rg rfl (.loadB (v := .int .i64 ((xs.getD (k - 1) noEdge).f)) na3 rfl f15 rfl) ?_
    refine G.ag rfl (.field0 fa51_1 rfl) ?_
    have f16 := (((f9.le h7_5).ch h7_6 (fun h => (show g7_5 ≠ g3_3 from by have := f9.lt; omega) (Option.some.inj h))).le d8)
    refine G.rg rfl (.loadB (v := .int .i64 ((xs.getD k noEdge).t)) na3 rfl f16 rfl) ?_
    refine G.run 2 rfl ?_
    by_cases q8_20 : ((xs.getD (k - 1) noEdge).f) ≠ ((xs.getD k noEdge).t)
    ·refine G.a rfl (.dec (.move rfl) (decide_eq_true q8_20)) ?_
     refine G.run 13 rfl (G.nil (E.thenN (WC.condT rfl (WC.sr (W.run 1 rfl (W.nx (WC.ret (E.blkR (E.thenR (E.thenR (E.blkR (E.thenR ?_))))))))))))
     refine E.retG1 rfl rfl ?_
     exact ⟨rB (decide_eq_false (fun hr => by have hr := hr k (by omega); unfold RightAt at hr; first | exact absurd hr.1 (by assumption) | (have h2 := hr.2; clear hr; omega))).symm, L12⟩
    refine G.a rfl (.dec (.move rfl) (decide_eq_false q8_20)) ?_
    refine G.ag rfl (.field0 fa51_1 rfl) ?_
    refine G.rg rfl (.loadB (v := .int .i64 ((xs.getD (k - 1) noEdge).t)) na3 rfl f15 rfl) ?_
    refine G.ag rfl (.field0 fa51_0 rfl) ?_
    refine G.rg rfl (.loadB (v := .int .i64 ((xs.getD k noEdge).f)) na3 rfl f16 rfl) ?_
    refine G.run 2 rfl ?_
    by_cases q8_27 : ((xs.getD (k - 1) noEdge).t) ≠ ((xs.getD k noEdge).f)
    ·refine G.a rfl (.dec (.move rfl) (decide_eq_true q8_27)) ?_
     refine G.run 6 rfl (G.nil (E.thenN (WC.condT rfl (WC.sr (W.run 1 rfl (W.nx (WC.ret (E.blkR (E.thenR (E.thenR (E.blkR (E.thenR ?_))))))))))))
     refine E.retG1 rfl rfl ?_
     exact ⟨rB (decide_eq_false (fun hr => by have hr := hr k (by omega); unfold RightAt at hr; first | exact absurd hr.1 (by assumption) | (have h2 := hr.2; clear hr; omega))).symm, L12⟩
    refine G.a rfl (.dec (.move rfl) (decide_eq_false q8_27)) ?_
    refine G.ag rfl (.field0 fa51_3 rfl) ?_
    refine G.rg rfl (.loadB (v := .int .i64 ((xs.getD (k - 1) noEdge).r)) na3 rfl f15 rfl) ?_
    refine G.ag rfl (.field0 fa51_3 rfl) ?_
    refine G.rg rfl (.loadB (v := .int .i64 ((xs.getD k noEdge).r)) na3 rfl f16 rfl) ?_
    refine G.run 2 rfl (G.nil (E.thenN ?_))
    by_cases c3 : ((xs.getD (k - 1) noEdge).r) ≠ ((xs.getD k noEdge).r)
    ·refine WC.condY rfl (decide_eq_true c3) ?_
     refine WC.sr (W.run 1 rfl (W.nx (WC.ret (E.blkR (E.thenR (E.thenR (E.blkR (E.thenR ?_))))))))
     refine E.retG1 rfl rfl ?_
     exact ⟨rB (decide_eq_false (fun hr => by have hr := hr k (by omega); unfold RightAt at hr; first | exact absurd hr.1 (by assumption) | (have h2 := hr.2; clear hr; omega))).symm, L12⟩
    refine WC.condN rfl (decide_eq_false c3) ?_
    refine WC.skip (E.blkN (E.thenN (WC.region ?_)))
    refine W.a (.add rfl rfl (by omega)) ?_
    refine W.run 1 rfl (W.nil ?_)
    refine E.again (k + 1) (.cons rfl (.cons rfl (.cons rfl (.cons rfl (.nil _))))) ?_ ?_
    ·exact ⟨by omega, fun j hj => by rcases Nat.lt_or_ge j k with h | h; exact hz j h; rw [show j = k by omega]; refine ⟨by assumption, fun _ => ?_, fun ⟨_, _⟩ => ⟨?_, ?_, ?_, ?_⟩⟩ <;> first | omega | (exfalso; omega) | (exact fun ⟨_, _⟩ => by omega), L12, by have := zl0; have := h3_3.size; have := h3_5.size; have := d4.size; have := h4_1.size; have := h4_13.size; have := d6.size; have := h7_5.size; have := h7_6.size; have := d8.size; omega⟩
    first | omega | (simp only []; omega)
   refine G.ag rfl (.dec (.move rfl) (decide_eq_false q4_6)) ?_
   refine G.run 8 rfl ?_
   refine G.ag rfl (.pickF rfl rfl rfl) ?_
   refine G.run 1 rfl (G.nil (E.thenN (WC.condF rfl (WC.sn (WC.seq (WC.seq ?_))))))
   refine WC.draw [0, 1, 2, 3, 4, 5, 6, 7, 8, 9, 10, 11, 12] mixed (by kernel_rfl) ?_
   intro w6 d6
   have L17 := L5.trans d6
   refine G.run 2 rfl ?_
   by_cases q6_2 : ((k : Nat) : Int) = 0
   ·refine G.a rfl (.dec (.move rfl) (decide_eq_true q6_2)) ?_
    refine G.run 10 rfl (G.nil (E.thenN (WC.condT rfl (WC.exit (E.thenX (E.blkH (E.thenN (WC.region ?_))))))))
    refine W.a (.add rfl rfl (by omega)) ?_
    refine W.run 1 rfl (W.nil ?_)
    refine E.again (k + 1) (.cons rfl (.cons rfl (.cons rfl (.cons rfl (.nil _))))) ?_ ?_
    ·exact ⟨by omega, fun j hj => by rcases Nat.lt_or_ge j k with h | h; exact hz j h; rw [show j = k by omega]; refine ⟨by assumption, fun _ => ?_, fun ⟨_, _⟩ => ⟨?_, ?_, ?_, ?_⟩⟩ <;> first | omega | (exfalso; omega) | (exact fun ⟨_, _⟩ => by omega), L17, by have := zl0; have := h3_3.size; have := h3_5.size; have := d4.size; have := h4_1.size; have := d6.size; omega⟩
    first | omega | (simp only []; omega)
   refine G.a rfl (.dec (.move rfl) (decide_eq_false q6_2)) ?_
   refine G.run 2 rfl ?_
   refine G.ag rfl (.sub rfl rfl (by omega)) ?_
   refine G.ag rfl (.idxS ((k - 1)) Tryz.underlying22 sz51 rfl rfl (hV.isSome edgeV_row (by omega)) (by omega) (by omega)) ?_
   refine G.ag rfl (.vfield fa51_2 (hV.isSome edgeV_row (by omega)) rfl) ?_
   refine G.rg rfl (.vcell (j := (k - 1)) (o := 2) (v := .int .i64 ((xs.getD (k - 1) noEdge).c)) na3 rfl (hV.le L17) edgeV_row (getS xs noEdge (by omega)) rfl) ?_
   refine G.ag rfl (.field0 fa51_2 rfl) ?_
   have f18 := (f4.le (h4_1.trans d6))
   refine G.rg rfl (.loadB (v := .int .i64 ((xs.getD k noEdge).c)) na3 rfl f18 rfl) ?_
   refine G.run 2 rfl (G.nil (E.thenN ?_))
   by_cases c2 : ((xs.getD (k - 1) noEdge).c) ≠ ((xs.getD k noEdge).c)
   ·refine WC.condY rfl (decide_eq_true c2) ?_
    refine WC.exit (E.thenX (E.blkH (E.thenN (WC.region ?_))))
    refine W.a (.add rfl rfl (by omega)) ?_
    refine W.run 1 rfl (W.nil ?_)
    refine E.again (k + 1) (.cons rfl (.cons rfl (.cons rfl (.cons rfl (.nil _))))) ?_ ?_
    ·exact ⟨by omega, fun j hj => by rcases Nat.lt_or_ge j k with h | h; exact hz j h; rw [show j = k by omega]; refine ⟨by assumption, fun _ => ?_, fun ⟨_, _⟩ => ⟨?_, ?_, ?_, ?_⟩⟩ <;> first | omega | (exfalso; omega) | (exact fun ⟨_, _⟩ => by omega), L17, by have := zl0; have := h3_3.size; have := h3_5.size; have := d4.size; have := h4_1.size; have := d6.size; omega⟩
    first | omega | (simp only []; omega)
   refine WC.condN rfl (decide_eq_false c2) ?_
   refine WC.sn (WC.sr (W.run 2 rfl ?_))
   refine W.a (.sub rfl rfl (by omega)) ?_
   refine W.a (.idxS ((k - 1)) Tryz.underlying22 sz51 rfl rfl (hV.isSome edgeV_row (by omega)) (by omega) (by omega)) ?_
   refine W.r (.vload ag51 rfl (hV.le L17) edgeV_row (getS xs noEdge (by omega))) ?_
   refine W.ef rfl rfl rfl ?_
   refine Ef.allocA z51 ?_
   intro g7_5_1 w7_5_1 hg7_5_1 b7_5_1 h7_5_1
   have L19 := L17.trans h7_5_1
   have b7_5_1 : Blk w7_5_1 g7_5_1 51 (edgeV noEdge).toArray := b7_5_1
   refine W.ef0 rfl rfl ?_
   refine Ef.storeAll sz51 (by rfl) rfl rfl b7_5_1 (by simp only [List.size_toArray, edgeV_row.len]) (edgeV_row.one (xs.getD (k - 1) noEdge)) ?_
   intro w7_6_1 b7_6_1 h7_6_1
   have b7_6_1 : Blk w7_6_1 g7_5_1 51 (edgeV (xs.getD (k - 1) noEdge)).toArray := b7_6_1
   have L20 := L19.then_ h7_6_1 (fun q hq => by cases hq; exact Nat.le_trans L17.size hg7_5_1)
   refine W.nx (WC.seq ?_)
   refine WC.draw [0, 1, 2, 3, 4, 5, 6, 7, 8, 9, 10, 11, 12, 13, 14, 15, 16, 17, 18, 19, 20, 21, 22, 23, 24, 25, 26, 27, 28, 29, 30, 31, 32, 33] mixed (by kernel_rfl) ?_
   intro w8 d8
   have L21 := L20.trans d8
   refine G.run 2 rfl ?_
   by_cases q8_2 : 1 < ((k : Nat) : Int)
   ·refine G.a rfl (.dec (.move rfl) (decide_eq_true q8_2)) ?_
    refine G.run 2 rfl ?_
    refine G.ag rfl (.sub rfl rfl (by omega)) ?_
    refine G.ag rfl (.idxS ((k - 2)) Tryz.underlying22 sz51 rfl rfl (hV.isSome edgeV_row (by omega)) (by omega) (by omega)) ?_
    refine G.ag rfl (.vfield fa51_2 (hV.isSome edgeV_row (by omega)) rfl) ?_
    refine G.rg rfl (.vcell (j := (k - 2)) (o := 2) (v := .int .i64 ((xs.getD (k - 2) noEdge).c)) na3 rfl (hV.le L21) edgeV_row (getS xs noEdge (by omega)) rfl) ?_
    refine G.ag rfl (.field0 fa51_2 rfl) ?_
    have f22 := (((f18.le h7_5_1).ch h7_6_1 (fun h => (show g7_5_1 ≠ g3_3 from by have := f18.lt; omega) (Option.some.inj h))).le d8)
    refine G.rg rfl (.loadB (v := .int .i64 ((xs.getD k noEdge).c)) na3 rfl f22 rfl) ?_
    refine G.run 2 rfl ?_
    by_cases q8_13 : ((xs.getD (k - 2) noEdge).c) = ((xs.getD k noEdge).c)
    ·refine G.a rfl (.dec (.move rfl) (decide_eq_true q8_13)) ?_
     refine G.run 20 rfl (G.nil (E.thenN (WC.condT rfl (WC.sr (W.run 1 rfl (W.nx (WC.ret (E.blkR (E.thenR (E.thenR (E.blkR (E.thenR ?_))))))))))))
     refine E.retG1 rfl rfl ?_
     exact ⟨rB (decide_eq_false (fun hr => by have hr := hr k (by omega); unfold RightAt at hr; first | exact absurd hr.1 (by assumption) | (have h2 := hr.2; clear hr; omega))).symm, L21⟩
    refine G.a rfl (.dec (.move rfl) (decide_eq_false q8_13)) ?_
    refine G.ag rfl (.field0 fa51_0 rfl) ?_
    have f23 := (b7_6_1.le d8)
    refine G.rg rfl (.loadB (v := .int .i64 ((xs.getD (k - 1) noEdge).f)) na3 rfl f23 rfl) ?_
    refine G.ag rfl (.field0 fa51_1 rfl) ?_
    refine G.rg rfl (.loadB (v := .int .i64 ((xs.getD k noEdge).t)) na3 rfl f22 rfl) ?_
    refine G.run 2 rfl ?_
    by_cases q8_20 : ((xs.getD (k - 1) noEdge).f) ≠ ((xs.getD k noEdge).t)
    ·refine G.a rfl (.dec (.move rfl) (decide_eq_true q8_20)) ?_
     refine G.run 13 rfl (G.nil (E.thenN (WC.condT rfl (WC.sr (W.run 1 rfl (W.nx (WC.ret (E.blkR (E.thenR (E.thenR (E.blkR (E.thenR ?_))))))))))))
     refine E.retG1 rfl rfl ?_
     exact ⟨rB (decide_eq_false (fun hr => by have hr := hr k (by omega); unfold RightAt at hr; first | exact absurd hr.1 (by assumption) | (have h2 := hr.2; clear hr; omega))).symm, L21⟩
    refine G.a rfl (.dec (.move rfl) (decide_eq_false q8_20)) ?_
    refine G.ag rfl (.field0 fa51_1 rfl) ?_
    refine G.rg rfl (.loadB (v := .int .i64 ((xs.getD (k - 1) noEdge).t)) na3 rfl f23 rfl) ?_
    refine G.ag rfl (.field0 fa51_0 rfl) ?_
    refine G.rg rfl (.loadB (v := .int .i64 ((xs.getD k noEdge).f)) na3 rfl f22 rfl) ?_
    refine G.run 2 rfl ?_
    by_cases q8_27 : ((xs.getD (k - 1) noEdge).t) ≠ ((xs.getD k noEdge).f)
    ·refine G.a rfl (.dec (.move rfl) (decide_eq_true q8_27)) ?_
     refine G.run 6 rfl (G.nil (E.thenN (WC.condT rfl (WC.sr (W.run 1 rfl (W.nx (WC.ret (E.blkR (E.thenR (E.thenR (E.blkR (E.thenR ?_))))))))))))
     refine E.retG1 rfl rfl ?_
     exact ⟨rB (decide_eq_false (fun hr => by have hr := hr k (by omega); unfold RightAt at hr; first | exact absurd hr.1 (by assumption) | (have h2 := hr.2; clear hr; omega))).symm, L21⟩
    refine G.a rfl (.dec (.move rfl) (decide_eq_false q8_27)) ?_
    refine G.ag rfl (.field0 fa51_3 rfl) ?_
    refine G.rg rfl (.loadB (v := .int .i64 ((xs.getD (k - 1) noEdge).r)) na3 rfl f23 rfl) ?_
    refine G.ag rfl (.field0 fa51_3 rfl) ?_
    refine G.rg rfl (.loadB (v := .int .i64 ((xs.getD k noEdge).r)) na3 rfl f22 rfl) ?_
    refine G.run 2 rfl (G.nil (E.thenN ?_))
    by_cases c3 : ((xs.getD (k - 1) noEdge).r) ≠ ((xs.getD k noEdge).r)
    ·refine WC.condY rfl (decide_eq_true c3) ?_
     refine WC.sr (W.run 1 rfl (W.nx (WC.ret (E.blkR (E.thenR (E.thenR (E.blkR (E.thenR ?_))))))))
     refine E.retG1 rfl rfl ?_
     exact ⟨rB (decide_eq_false (fun hr => by have hr := hr k (by omega); unfold RightAt at hr; first | exact absurd hr.1 (by assumption) | (have h2 := hr.2; clear hr; omega))).symm, L21⟩
    refine WC.condN rfl (decide_eq_false c3) ?_
    refine WC.skip (E.blkN (E.thenN (WC.region ?_)))
    refine W.a (.add rfl rfl (by omega)) ?_
    refine W.run 1 rfl (W.nil ?_)
    refine E.again (k + 1) (.cons rfl (.cons rfl (.cons rfl (.cons rfl (.nil _))))) ?_ ?_
    ·exact ⟨by omega, fun j hj => by rcases Nat.lt_or_ge j k with h | h; exact hz j h; rw [show j = k by omega]; refine ⟨by assumption, fun _ => ?_, fun ⟨_, _⟩ => ⟨?_, ?_, ?_, ?_⟩⟩ <;> first | omega | (exfalso; omega) | (exact fun ⟨_, _⟩ => by omega), L21, by have := zl0; have := h3_3.size; have := h3_5.size; have := d4.size; have := h4_1.size; have := d6.size; have := h7_5_1.size; have := h7_6_1.size; have := d8.size; omega⟩
    first | omega | (simp only []; omega)
   refine G.a rfl (.dec (.move rfl) (decide_eq_false q8_2)) ?_
   refine G.run 11 rfl ?_
   refine G.ag rfl (.field0 fa51_0 rfl) ?_
   have f24 := (b7_6_1.le d8)
   refine G.rg rfl (.loadB (v := .int .i64 ((xs.getD (k - 1) noEdge).f)) na3 rfl f24 rfl) ?_
   refine G.ag rfl (.field0 fa51_1 rfl) ?_
   have f25 := (((f18.le h7_5_1).ch h7_6_1 (fun h => (show g7_5_1 ≠ g3_3 from by have := f18.lt; omega) (Option.some.inj h))).le d8)
   refine G.rg rfl (.loadB (v := .int .i64 ((xs.getD k noEdge).t)) na3 rfl f25 rfl) ?_
   refine G.run 2 rfl ?_
   by_cases q8_20 : ((xs.getD (k - 1) noEdge).f) ≠ ((xs.getD k noEdge).t)
   ·refine G.a rfl (.dec (.move rfl) (decide_eq_true q8_20)) ?_
    refine G.run 13 rfl (G.nil (E.thenN (WC.condT rfl (WC.sr (W.run 1 rfl (W.nx (WC.ret (E.blkR (E.thenR (E.thenR (E.blkR (E.thenR ?_))))))))))))
    refine E.retG1 rfl rfl ?_
    exact ⟨rB (decide_eq_false (fun hr => by have hr := hr k (by omega); unfold RightAt at hr; first | exact absurd hr.1 (by assumption) | (have h2 := hr.2; clear hr; omega))).symm, L21⟩
   refine G.a rfl (.dec (.move rfl) (decide_eq_false q8_20)) ?_
   refine G.ag rfl (.field0 fa51_1 rfl) ?_
   refine G.rg rfl (.loadB (v := .int .i64 ((xs.getD (k - 1) noEdge).t)) na3 rfl f24 rfl) ?_
   refine G.ag rfl (.field0 fa51_0 rfl) ?_
   refine G.rg rfl (.loadB (v := .int .i64 ((xs.getD k noEdge).f)) na3 rfl f25 rfl) ?_
   refine G.run 2 rfl ?_
   by_cases q8_27 : ((xs.getD (k - 1) noEdge).t) ≠ ((xs.getD k noEdge).f)
   ·refine G.a rfl (.dec (.move rfl) (decide_eq_true q8_27)) ?_
    refine G.run 6 rfl (G.nil (E.thenN (WC.condT rfl (WC.sr (W.run 1 rfl (W.nx (WC.ret (E.blkR (E.thenR (E.thenR (E.blkR (E.thenR ?_))))))))))))
    refine E.retG1 rfl rfl ?_
    exact ⟨rB (decide_eq_false (fun hr => by have hr := hr k (by omega); unfold RightAt at hr; first | exact absurd hr.1 (by assumption) | (have h2 := hr.2; clear hr; omega))).symm, L21⟩
   refine G.a rfl (.dec (.move rfl) (decide_eq_false q8_27)) ?_
   refine G.ag rfl (.field0 fa51_3 rfl) ?_
   refine G.rg rfl (.loadB (v := .int .i64 ((xs.getD (k - 1) noEdge).r)) na3 rfl f24 rfl) ?_
   refine G.ag rfl (.field0 fa51_3 rfl) ?_
   refine G.rg rfl (.loadB (v := .int .i64 ((xs.getD k noEdge).r)) na3 rfl f25 rfl) ?_
   refine G.run 2 rfl (G.nil (E.thenN ?_))
   by_cases c3 : ((xs.getD (k - 1) noEdge).r) ≠ ((xs.getD k noEdge).r)
   ·refine WC.condY rfl (decide_eq_true c3) ?_
    refine WC.sr (W.run 1 rfl (W.nx (WC.ret (E.blkR (E.thenR (E.thenR (E.blkR (E.thenR ?_))))))))
    refine E.retG1 rfl rfl ?_
    exact ⟨rB (decide_eq_false (fun hr => by have hr := hr k (by omega); unfold RightAt at hr; first | exact absurd hr.1 (by assumption) | (have h2 := hr.2; clear hr; omega))).symm, L21⟩
   refine WC.condN rfl (decide_eq_false c3) ?_
   refine WC.skip (E.blkN (E.thenN (WC.region ?_)))
   refine W.a (.add rfl rfl (by omega)) ?_
   refine W.run 1 rfl (W.nil ?_)
   refine E.again (k + 1) (.cons rfl (.cons rfl (.cons rfl (.cons rfl (.nil _))))) ?_ ?_
   ·exact ⟨by omega, fun j hj => by rcases Nat.lt_or_ge j k with h | h; exact hz j h; rw [show j = k by omega]; refine ⟨by assumption, fun _ => ?_, fun ⟨_, _⟩ => ⟨?_, ?_, ?_, ?_⟩⟩ <;> first | omega | (exfalso; omega) | (exact fun ⟨_, _⟩ => by omega), L21, by have := zl0; have := h3_3.size; have := h3_5.size; have := d4.size; have := h4_1.size; have := d6.size; have := h7_5_1.size; have := h7_6_1.size; have := d8.size; omega⟩
   first | omega | (simp only []; omega)
  refine G.a rfl (.dec (.move rfl) (congrArg not ((Bool.eq_false_iff.2 q4_3)))) ?_
  refine G.run 3 rfl ?_
  refine G.skipu rfl rfl rfl rfl rfl rfl ?_
  refine G.skipu rfl rfl rfl rfl rfl rfl ?_
  refine G.skipu rfl rfl rfl rfl rfl rfl ?_
  refine G.skipu rfl rfl rfl rfl rfl rfl ?_
  refine G.skipu rfl rfl rfl rfl rfl rfl ?_
  refine G.skipu rfl rfl rfl rfl rfl rfl ?_
  refine G.skipu rfl rfl rfl rfl rfl rfl ?_
  refine G.skipu rfl rfl rfl rfl rfl rfl ?_
  refine G.run 2 rfl (G.nil (E.thenN (WC.condT rfl (WC.sr (W.run 1 rfl (W.nx (WC.ret (E.thenR (E.blkR (E.thenR (E.thenR (E.blkR (E.thenR ?_)))))))))))))
  refine E.retG1 rfl rfl ?_
  exact ⟨rB (decide_eq_false (fun hr => by have hr := hr k (by omega); unfold RightAt at hr; first | exact absurd hr.1 (by assumption) | (have h2 := hr.2; clear hr; omega))).symm, L5⟩
 refine WC.condN rfl (decide_eq_false c0) ?_
 refine WC.exit (E.thenX (E.thenX (E.blkH (E.thenN (WC.sr (W.run 1 rfl (W.nx (WC.ret ?_))))))))
 refine E.retG1 rfl rfl ?_
 exact ⟨rB (decide_eq_true (fun j hj => hz j (by omega))).symm, Ll0⟩

theorem gway_ok {A : Option Addr} {n c : Nat} {xs : List Gsp.Edge} (w : World) (hV : Vec w edgeV 9 A n xs) (hn : n ≤ 1000000) : Calls Tryz.prog 25 #[.slice A n c] w fun r w' => r = .returned (.bool (wayG xs)) ∧ Le w w' := by
 have hl := hV.1
 refine enter Tryz.func25 rfl rfl ?_
 have L0 := Le.refl w
 refine WC.sr (W.run 1 rfl (W.nx (WC.seq (WC.sr (W.run 1 rfl ?_)))))
 refine W.r (.len Tryz.underlying22 rfl) ?_
 refine W.cl go64 rfl rfl (gin_ok ((n : Nat) : Int) 1 8 w) ?_
 rintro _ w1_2 ⟨rfl, h1_2⟩
 have L1 := L0.trans h1_2
 refine W.run 1 rfl (W.nx ?_)
 by_cases c0 : (inB ((n : Nat) : Int) 1 8) = true
 ·refine WC.condN rfl (congrArg not (c0)) ?_
  refine WC.sn (WC.sr (W.ef rfl rfl rfl ?_))
  refine Ef.allocA z98 ?_
  intro g3_0 w3_0 hg3_0 b3_0 h3_0
  have L2 := L1.trans h3_0
  have b3_0 : Blk w3_0 g3_0 98 (((List.replicate 12 false)).map Value.bool).toArray := b3_0.cast (rfl)
  refine W.nx (WC.seq (WC.sr (W.run 1 rfl ?_)))
  refine W.r (.len Tryz.underlying22 rfl) ?_
  refine W.run 1 rfl (W.nx (WC.block ?_))
  refine WC.loop (ι := Nat × (List Bool)) (fun ⟨k, bs⟩ => [(0, .slice A n c), (3, .pointer (some ⟨g3_0, 0, none⟩)), (10, .slice A n c), (11, .int .i64 (((n : Nat) : Int))), (12, .int .i64 (((k : Nat) : Int)))]) (fun ⟨k, bs⟩ wl0 => (k ≤ n) ∧ (bs.length = 12) ∧ (∀ j, j < k → WayAt xs j) ∧ (Been bs xs k) ∧ Le w wl0 ∧ w3_0.heap.size ≤ wl0.heap.size ∧ Blk wl0 g3_0 98 (bs.map Value.bool).toArray) (fun ⟨k, bs⟩ => n - k) (0, (List.replicate 12 false)) ?_ ?_ ?_
  ·exact .cons rfl (.cons rfl (.cons rfl (.cons rfl (.cons rfl (.nil _)))))
  ·exact ⟨Nat.zero_le _, rfl, fun j hj => absurd hj (Nat.not_lt_zero _), been_first xs, L2, Nat.le_refl _, b3_0⟩
  rintro ⟨k, bs⟩ wl0 ⟨hk, hb, hz, hd, Ll0, zl0, f0_0⟩
  refine WC.sr (W.run 1 rfl (W.nx (WC.seq ?_)))
  by_cases c1 : ((k : Nat) : Int) < ((n : Nat) : Int)
  ·refine WC.condY rfl (decide_eq_true c1) ?_
   refine WC.sn (WC.seq (WC.block (WC.sr (W.run 1 rfl ?_))))
   refine W.a (.idxS (k) Tryz.underlying22 sz51 rfl rfl (hV.isSome edgeV_row (by omega)) (rfl) (by omega)) ?_
   refine W.r (.vload ag51 rfl (hV.le Ll0) edgeV_row (getS xs noEdge (by omega))) ?_
   refine W.ef rfl rfl rfl ?_
   refine Ef.allocA z51 ?_
   intro g6_3 w6_3 hg6_3 b6_3 h6_3
   have L3 := Ll0.trans h6_3
   have b6_3 : Blk w6_3 g6_3 51 (edgeV noEdge).toArray := b6_3
   refine W.run 1 rfl ?_
   refine W.ef0 rfl rfl ?_
   refine Ef.storeAll sz51 (by rfl) rfl rfl b6_3 (by simp only [List.size_toArray, edgeV_row.len]) (edgeV_row.one (xs.getD k noEdge)) ?_
   intro w6_5 b6_5 h6_5
   have b6_5 : Blk w6_5 g6_3 51 (edgeV (xs.getD k noEdge)).toArray := b6_5
   have L4 := L3.then_ h6_5 (fun q hq => by cases hq; exact Nat.le_trans Ll0.size hg6_3)
   refine W.nx (WC.seq (WC.seq ?_))
   refine WC.draw [0, 1, 2, 3, 4, 5, 6, 7, 8, 9, 10, 11, 12, 13, 14, 15, 16, 17, 18, 19, 20, 21, 22, 23] mixed (by kernel_rfl) ?_
   intro w7 d7
   have L5 := L4.trans d7
   have f6 := (b6_5.le d7)
   refine G.r rfl (.loadAll ag51 (by rfl) rfl f6) ?_
   refine G.ef rfl rfl rfl rfl rfl ?_
   refine Ef.call go62 rfl rfl (edge_ok (xs.getD k noEdge) w7) ?_
   rintro _ w7_1 ⟨rfl, h7_1⟩
   refine ⟨_, rfl, ?_⟩
   refine ⟨fun _ => h7_1, ?_⟩
   have L7 := L5.trans h7_1
   refine G.run 1 rfl ?_
   by_cases q7_3 : (edgeOk (xs.getD k noEdge)) = true
   ·refine G.a rfl (.dec (.move rfl) (congrArg not (q7_3))) ?_
    refine G.run 2 rfl ?_
    by_cases q7_6 : 0 < ((k : Nat) : Int)
    ·refine G.ag rfl (.dec (.move rfl) (decide_eq_true q7_6)) ?_
     refine G.run 2 rfl ?_
     refine G.ag rfl (.sub rfl rfl (by omega)) ?_
     refine G.ag rfl (.idxS ((k - 1)) Tryz.underlying22 sz51 rfl rfl (hV.isSome edgeV_row (by omega)) (by omega) (by omega)) ?_
     refine G.ag rfl (.vfield fa51_1 (hV.isSome edgeV_row (by omega)) rfl) ?_
     refine G.rg rfl (.vcell (j := (k - 1)) (o := 1) (v := .int .i64 ((xs.getD (k - 1) noEdge).t)) na3 rfl (hV.le L7) edgeV_row (getS xs noEdge (by omega)) rfl) ?_
     refine G.ag rfl (.field0 fa51_0 rfl) ?_
     have f8 := (f6.le h7_1)
     refine G.rg rfl (.loadB (v := .int .i64 ((xs.getD k noEdge).f)) na3 rfl f8 rfl) ?_
     refine G.run 1 rfl ?_
     refine G.ag rfl (.pickT rfl rfl rfl) ?_
     refine G.run 1 rfl ?_
     by_cases q7_18 : ((xs.getD (k - 1) noEdge).t) ≠ ((xs.getD k noEdge).f)
     ·refine G.a rfl (.dec (.move rfl) (decide_eq_true q7_18)) ?_
      refine G.run 5 rfl (G.nil (E.thenN (WC.condT rfl (WC.sr (W.run 1 rfl (W.nx (WC.ret (E.thenR (E.blkR (E.thenR (E.thenR (E.blkR (E.thenR ?_)))))))))))))
      refine E.retG1 rfl rfl ?_
      exact ⟨rB (decide_eq_false (fun hr => by have hr := hr.2 k (by omega); first | exact absurd hr.1 (by assumption) | exact way_fail hz hd (by assumption) hr | (have := hr.2.1; omega))).symm, L7⟩
     refine G.a rfl (.dec (.move rfl) (decide_eq_false q7_18)) ?_
     refine G.ag rfl (.field0 fa51_1 rfl) ?_
     refine G.rg rfl (.loadB (v := .int .i64 ((xs.getD k noEdge).t)) na3 rfl f8 rfl) ?_
     have hok := edgeOk_T (show edgeOk (xs.getD k noEdge) = true by assumption)
     refine G.ag rfl (.idxA1 (((xs.getD k noEdge).t).toNat) Tryz.underlying98 sz4 rfl rfl (by omega) (by omega)) ?_
     have f9 := (((f0_0.le h6_3).ch h6_5 (fun h => (show g6_3 ≠ g3_0 from by have := f0_0.lt; omega) (Option.some.inj h))).le (d7.trans h7_1))
     refine G.rg rfl (.loadB na4 rfl f9 (getA bs false (by omega))) ?_
     refine G.run 1 rfl (G.nil (E.thenN ?_))
     by_cases c2 : ((bs).getD (((xs.getD k noEdge).t).toNat) false) = true
     ·refine WC.condY rfl (c2) ?_
      refine WC.sr (W.run 1 rfl (W.nx (WC.ret (E.thenR (E.blkR (E.thenR (E.thenR (E.blkR (E.thenR ?_)))))))))
      refine E.retG1 rfl rfl ?_
      exact ⟨rB (decide_eq_false (fun hr => by have hr := hr.2 k (by omega); first | exact absurd hr.1 (by assumption) | exact way_fail hz hd (by assumption) hr | (have := hr.2.1; omega))).symm, L7⟩
     refine WC.condN rfl ((Bool.eq_false_iff.2 c2)) ?_
     refine WC.sn ?_
     refine WC.drawS (fun w9 w' => Le w w' ∧ Blk w' g6_3 51 (edgeV (xs.getD k noEdge)).toArray) [0, 1, 2, 3, 4, 5, 6, 7] mixed (by kernel_rfl) ?_
     intro w9 d9
     have L10 := L7.trans d9
     have f11 := (f8.le d9)
     refine ⟨⟨L10, f11⟩, ?_⟩
     have hok := edgeOk_T (show edgeOk (xs.getD k noEdge) = true by assumption)
     refine GS.any rfl rfl (.field0 fa51_0 rfl) rfl rfl rfl ?_
     refine GS.rd rfl rfl (fun w' hs => .loadB (v := .int .i64 ((xs.getD k noEdge).f)) na3 rfl hs.2 rfl) rfl rfl rfl ?_
     refine GS.any rfl rfl (.field0 fa51_1 rfl) rfl rfl rfl ?_
     refine GS.rd rfl rfl (fun w' hs => .loadB (v := .int .i64 ((xs.getD k noEdge).t)) na3 rfl hs.2 rfl) rfl rfl rfl ?_
     refine GS.any rfl rfl (.idxA1 (((xs.getD k noEdge).f).toNat) Tryz.underlying98 sz4 rfl rfl (by omega) (by omega)) rfl rfl rfl ?_
     have f12 := (f9.le d9)
     refine GS.ef0 rfl rfl rfl rfl ?_
     refine Ef.store sz4 rfl rfl f12 (by simp only [List.size_toArray, List.length_map, List.length_set]; omega) rfl ?_
     intro w9_5 b9_5 h9_5
     have b9_5 : Blk w9_5 g3_0 98 ((bs.set (((xs.getD k noEdge).f).toNat) true).map Value.bool).toArray := bset b9_5
     have L13 := L10.then_ h9_5 (fun q hq => by cases hq; exact Nat.le_trans L1.size hg3_0)
     have f14 := (f11.ch h9_5 (fun h => (show g3_0 ≠ g6_3 from by have := f0_0.lt; omega) (Option.some.inj h)))
     refine ⟨⟨L13, f14⟩, ?_⟩
     refine GS.any rfl rfl (.idxA1 (((xs.getD k noEdge).t).toNat) Tryz.underlying98 sz4 rfl rfl (by omega) (by omega)) rfl rfl rfl ?_
     refine GS.ef0 rfl rfl rfl rfl ?_
     refine Ef.store sz4 rfl rfl b9_5 (by simp only [List.size_toArray, List.length_map, List.length_set]; omega) rfl ?_
     intro w9_7 b9_7 h9_7
     have b9_7 : Blk w9_7 g3_0 98 (((bs.set (((xs.getD k noEdge).f).toNat) true).set (((xs.getD k noEdge).t).toNat) true).map Value.bool).toArray := bset b9_7
     have L15 := L13.then_ h9_7 (fun q hq => by cases hq; exact Nat.le_trans L1.size hg3_0)
     have f16 := (f14.ch h9_7 (fun h => (show g3_0 ≠ g6_3 from by have := f0_0.lt; omega) (Option.some.inj h)))
     refine ⟨⟨L15, f16⟩, ?_⟩
     refine GS.nil ?_
     refine E.blkN (E.thenN (WC.region ?_))
     refine W.a (.add rfl rfl (by omega)) ?_
     refine W.run 1 rfl (W.nil ?_)
     refine E.again (k + 1, ((bs.set (xs.getD k noEdge).f.toNat true).set (xs.getD k noEdge).t.toNat true)) (.cons rfl (.cons rfl (.cons rfl (.cons rfl (.cons rfl (.nil _)))))) ?_ ?_
     ·exact ⟨by omega, by simp [hb], way_next hz (by assumption) (by intro h0; omega) hd (by assumption), been_next hb (by assumption) hd, L15, by have := zl0; have := h6_3.size; have := h6_5.size; have := d7.size; have := h7_1.size; have := d9.size; have := h9_5.size; have := h9_7.size; omega, b9_7⟩
     first | omega | (simp only []; omega)
    refine G.ag rfl (.dec (.move rfl) (decide_eq_false q7_6)) ?_
    refine G.run 9 rfl ?_
    refine G.ag rfl (.pickF rfl rfl rfl) ?_
    refine G.run 2 rfl ?_
    refine G.ag rfl (.field0 fa51_1 rfl) ?_
    have f17 := (f6.le h7_1)
    refine G.rg rfl (.loadB (v := .int .i64 ((xs.getD k noEdge).t)) na3 rfl f17 rfl) ?_
    have hok := edgeOk_T (show edgeOk (xs.getD k noEdge) = true by assumption)
    refine G.ag rfl (.idxA1 (((xs.getD k noEdge).t).toNat) Tryz.underlying98 sz4 rfl rfl (by omega) (by omega)) ?_
    have f18 := (((f0_0.le h6_3).ch h6_5 (fun h => (show g6_3 ≠ g3_0 from by have := f0_0.lt; omega) (Option.some.inj h))).le (d7.trans h7_1))
    refine G.rg rfl (.loadB na4 rfl f18 (getA bs false (by omega))) ?_
    refine G.run 1 rfl (G.nil (E.thenN ?_))
    by_cases c2 : ((bs).getD (((xs.getD k noEdge).t).toNat) false) = true
    ·refine WC.condY rfl (c2) ?_
     refine WC.sr (W.run 1 rfl (W.nx (WC.ret (E.thenR (E.blkR (E.thenR (E.thenR (E.blkR (E.thenR ?_)))))))))
     refine E.retG1 rfl rfl ?_
     exact ⟨rB (decide_eq_false (fun hr => by have hr := hr.2 k (by omega); first | exact absurd hr.1 (by assumption) | exact way_fail hz hd (by assumption) hr | (have := hr.2.1; omega))).symm, L7⟩
    refine WC.condN rfl ((Bool.eq_false_iff.2 c2)) ?_
    refine WC.sn ?_
    refine WC.drawS (fun w9 w' => Le w w' ∧ Blk w' g6_3 51 (edgeV (xs.getD k noEdge)).toArray) [0, 1, 2, 3, 4, 5, 6, 7] mixed (by kernel_rfl) ?_
    intro w9 d9
    have L19 := L7.trans d9
    have f20 := (f17.le d9)
    refine ⟨⟨L19, f20⟩, ?_⟩
    have hok := edgeOk_T (show edgeOk (xs.getD k noEdge) = true by assumption)
    refine GS.any rfl rfl (.field0 fa51_0 rfl) rfl rfl rfl ?_
    refine GS.rd rfl rfl (fun w' hs => .loadB (v := .int .i64 ((xs.getD k noEdge).f)) na3 rfl hs.2 rfl) rfl rfl rfl ?_
    refine GS.any rfl rfl (.field0 fa51_1 rfl) rfl rfl rfl ?_
    refine GS.rd rfl rfl (fun w' hs => .loadB (v := .int .i64 ((xs.getD k noEdge).t)) na3 rfl hs.2 rfl) rfl rfl rfl ?_
    refine GS.any rfl rfl (.idxA1 (((xs.getD k noEdge).f).toNat) Tryz.underlying98 sz4 rfl rfl (by omega) (by omega)) rfl rfl rfl ?_
    have f21 := (f18.le d9)
    refine GS.ef0 rfl rfl rfl rfl ?_
    refine Ef.store sz4 rfl rfl f21 (by simp only [List.size_toArray, List.length_map, List.length_set]; omega) rfl ?_
    intro w9_5_1 b9_5_1 h9_5_1
    have b9_5_1 : Blk w9_5_1 g3_0 98 ((bs.set (((xs.getD k noEdge).f).toNat) true).map Value.bool).toArray := bset b9_5_1
    have L22 := L19.then_ h9_5_1 (fun q hq => by cases hq; exact Nat.le_trans L1.size hg3_0)
    have f23 := (f20.ch h9_5_1 (fun h => (show g3_0 ≠ g6_3 from by have := f0_0.lt; omega) (Option.some.inj h)))
    refine ⟨⟨L22, f23⟩, ?_⟩
    refine GS.any rfl rfl (.idxA1 (((xs.getD k noEdge).t).toNat) Tryz.underlying98 sz4 rfl rfl (by omega) (by omega)) rfl rfl rfl ?_
    refine GS.ef0 rfl rfl rfl rfl ?_
    refine Ef.store sz4 rfl rfl b9_5_1 (by simp only [List.size_toArray, List.length_map, List.length_set]; omega) rfl ?_
    intro w9_7_1 b9_7_1 h9_7_1
    have b9_7_1 : Blk w9_7_1 g3_0 98 (((bs.set (((xs.getD k noEdge).f).toNat) true).set (((xs.getD k noEdge).t).toNat) true).map Value.bool).toArray := bset b9_7_1
    have L24 := L22.then_ h9_7_1 (fun q hq => by cases hq; exact Nat.le_trans L1.size hg3_0)
    have f25 := (f23.ch h9_7_1 (fun h => (show g3_0 ≠ g6_3 from by have := f0_0.lt; omega) (Option.some.inj h)))
    refine ⟨⟨L24, f25⟩, ?_⟩
    refine GS.nil ?_
    refine E.blkN (E.thenN (WC.region ?_))
    refine W.a (.add rfl rfl (by omega)) ?_
    refine W.run 1 rfl (W.nil ?_)
    refine E.again (k + 1, ((bs.set (xs.getD k noEdge).f.toNat true).set (xs.getD k noEdge).t.toNat true)) (.cons rfl (.cons rfl (.cons rfl (.cons rfl (.cons rfl (.nil _)))))) ?_ ?_
    ·exact ⟨by omega, by simp [hb], way_next hz (by assumption) (by intro h0; omega) hd (by assumption), been_next hb (by assumption) hd, L24, by have := zl0; have := h6_3.size; have := h6_5.size; have := d7.size; have := h7_1.size; have := d9.size; have := h9_5_1.size; have := h9_7_1.size; omega, b9_7_1⟩
    first | omega | (simp only []; omega)
   refine G.a rfl (.dec (.move rfl) (congrArg not ((Bool.eq_false_iff.2 q7_3)))) ?_
   refine G.run 3 rfl ?_
   refine G.skipu rfl rfl rfl rfl rfl rfl ?_
   refine G.skipu rfl rfl rfl rfl rfl rfl ?_
   refine G.skipu rfl rfl rfl rfl rfl rfl ?_
   refine G.skipu rfl rfl rfl rfl rfl rfl ?_
   refine G.skipu rfl rfl rfl rfl rfl rfl ?_
   refine G.skipu rfl rfl rfl rfl rfl rfl ?_
   refine G.skipu rfl rfl rfl rfl rfl rfl ?_
   refine G.skipu rfl rfl rfl rfl rfl rfl ?_
   refine G.skipu rfl rfl rfl rfl rfl rfl ?_
   refine G.run 8 rfl (G.nil (E.thenN (WC.condT rfl (WC.sr (W.run 1 rfl (W.nx (WC.ret (E.thenR (E.blkR (E.thenR (E.thenR (E.blkR (E.thenR ?_)))))))))))))
   refine E.retG1 rfl rfl ?_
   exact ⟨rB (decide_eq_false (fun hr => by have hr := hr.2 k (by omega); first | exact absurd hr.1 (by assumption) | exact way_fail hz hd (by assumption) hr | (have := hr.2.1; omega))).symm, L7⟩
  refine WC.condN rfl (decide_eq_false c1) ?_
  refine WC.exit (E.thenX (E.thenX (E.blkH (E.thenN (WC.sr (W.run 1 rfl (W.nx (WC.ret ?_))))))))
  refine E.retG1 rfl rfl ?_
  exact ⟨rB (decide_eq_true ⟨by have := inB_T (by assumption : inB (n : Int) 1 8 = true); omega, fun j hj => hz j (by omega)⟩).symm, Ll0⟩
 refine WC.condY rfl (congrArg not ((Bool.eq_false_iff.2 c0))) ?_
 refine WC.sr (W.run 1 rfl (W.nx (WC.ret (E.thenR ?_))))
 refine E.retG1 rfl rfl ?_
 exact ⟨rB (decide_eq_false (fun hr => by have := inB_F (Bool.eq_false_iff.2 (by assumption : ¬ inB (n : Int) 1 8 = true)); have := hr.1; omega)).symm, L1⟩
end Go.Proofs.YtmkdeemjkcigkaaGreatDoor

namespace Go.Proofs.YtmkdeemjkcigkaaGreatDoor
open Go Go.Sx Go.Hsp Go.Num Go.Osp Go.Gsp
set_option maxRecDepth 20000
theorem cost_ok (a x : Int) {A : Option Addr} {n c : Nat} {xs : List Gsp.Edge} (w : World) (hV : Vec w edgeV 9 A n xs) (hn : n ≤ 1000000) : Calls Tryz.prog 44 #[.slice A n c, .int .i64 (a), .int .i64 (x)] w fun r w' => ∃ A1 c1 A2 c2, r = .returned (.tuple #[.slice A1 (costG xs a x).1.length c1, .slice A2 (costG xs a x).2.1.length c2, .int .i64 (costG xs a x).2.2]) ∧ OVec w' w.heap.size 3 iv 1 A1 (costG xs a x).1.length c1 (costG xs a x).1 ∧ OVec w' w.heap.size 3 iv 1 A2 (costG xs a x).2.1.length c2 (costG xs a x).2.1 ∧ Le w w' := by
 have hl := hV.1
 refine enter Tryz.func44 rfl rfl ?_
 have L0 := Le.refl w
 refine WC.sr (W.run 3 rfl (W.nx (WC.seq (WC.sr (W.run 1 rfl ?_)))))
 refine W.cl go25 rfl rfl (gway_ok w (hV.le L0) (by omega)) ?_
 rintro _ w1_1 ⟨rfl, h1_1⟩
 have L1 := L0.trans h1_1
 refine W.run 1 rfl (W.nx ?_)
 by_cases c0 : (wayG xs) = true
 ·refine WC.condN rfl (congrArg not (c0)) ?_
  refine WC.sn (WC.seq (WC.sr (W.run 1 rfl ?_)))
  refine W.cl go64 rfl rfl (gin_ok a 1 1125899906842624 w1_1) ?_
  rintro _ w3_1 ⟨rfl, h3_1⟩
  have L2 := L1.trans h3_1
  refine W.run 1 rfl ?_
  by_cases q3_3 : (inB a 1 1125899906842624) = true
  ·refine W.a (.dec (.move rfl) (congrArg not (q3_3))) ?_
   refine W.run 1 rfl ?_
   refine W.efg rfl rfl rfl (rfl) rfl rfl ?_
   refine Ef.call go64 rfl rfl (gin_ok x 1 1048576 w3_1) ?_
   rintro _ w3_5 ⟨rfl, h3_5⟩
   refine ⟨_, rfl, ?_⟩
   have L3 := L2.trans h3_5
   refine W.run 2 rfl (W.nx ?_)
   by_cases c1 : (inB x 1 1048576) = true
   ·refine WC.condN rfl (congrArg not (c1)) ?_
    have hwl := wayG_len (by assumption : wayG xs = true)
    have ha1 := inB_T (by assumption : inB a 1 1125899906842624 = true)
    have hx1 := inB_T (by assumption : inB x 1 1048576 = true)
    refine WC.sn ?_
    refine WC.cut (ι := Nat × Nat) (fun ⟨g1, g2⟩ => [(0, .slice A n c), (1, .int .i64 (a)), (2, .int .i64 (x)), (9, .slice (some ⟨g1, 0, none⟩) n n), (10, .slice (some ⟨g2, 0, none⟩) n n)]) (fun ⟨g1, g2⟩ wc6 => Le w wc6 ∧ w3_5.heap.size ≤ wc6.heap.size ∧ OVec wc6 w3_5.heap.size 3 iv 1 (some ⟨g1, 0, none⟩) n n (List.replicate n 0) ∧ OVec wc6 w3_5.heap.size 3 iv 1 (some ⟨g2, 0, none⟩) n n (List.replicate n 0) ∧ Apart (some ⟨g1, 0, none⟩) n (some ⟨g2, 0, none⟩) n) ?_ ?_
    ·refine WC.drawT (fun o => (app o [0, 1, 3, 4] (.br (app o [2, 6, 5, 7] .nil) (app o [5, 2, 6, 7] .nil)))) mixed (by kernel_rfl) ?_
     intro w5 d5
     have L4 := L3.trans d5
     refine GT.app ?_
     refine G.run 1 rfl ?_
     refine G.r rfl (.len Tryz.underlying22 rfl) ?_
     refine G.run 1 rfl ?_
     refine G.r rfl (.len Tryz.underlying22 rfl) ?_
     refine G.nil ?_
     refine GT.br ?_ ?_
     ·refine GT.last ?_
      refine G.ef rfl rfl rfl rfl rfl ?_
      refine Ef.vmake 0 n Tryz.underlying24 el3 iv_row rfl rfl (rfl) rfl (rfl) (by omega) (by unfold maxLen; omega) ?_
      intro g5_2 w5_2 hg5_2 o5_2 h5_2
      refine ⟨fun _ => h5_2, ?_⟩
      have L5 := L4.trans h5_2
      refine G.run 1 rfl ?_
      refine G.ef rfl rfl rfl rfl rfl ?_
      refine Ef.vmake 0 n Tryz.underlying24 el3 iv_row rfl rfl (rfl) rfl (rfl) (by omega) (by unfold maxLen; omega) ?_
      intro g5_5 w5_5 hg5_5 o5_5 h5_5
      refine ⟨fun _ => h5_5, ?_⟩
      have L6 := L5.trans h5_5
      refine G.run 1 rfl (G.nil ?_)
      have f7 := (o5_2.le h5_5)
      refine E.meet (g5_2, g5_5) (.cons rfl (.cons rfl (.cons rfl (.cons rfl (.cons rfl (.nil _)))))) ?_
      exact ⟨L6, by have := d5.size; have := h5_2.size; have := h5_5.size; omega, (f7.mono (by have := d5.size; omega)), (o5_5.mono (by have := d5.size; have := h5_2.size; omega)), (fun q h1 h2 => by have := (o5_2.row h1).2; have := (o5_5.row h2).1; omega)⟩
     refine GT.last ?_
     refine G.ef rfl rfl rfl rfl rfl ?_
     refine Ef.vmake 0 n Tryz.underlying24 el3 iv_row rfl rfl (rfl) rfl (rfl) (by omega) (by unfold maxLen; omega) ?_
     intro g5_5_1 w5_5_1 hg5_5_1 o5_5_1 h5_5_1
     refine ⟨fun _ => h5_5_1, ?_⟩
     have L8 := L4.trans h5_5_1
     refine G.ef rfl rfl rfl rfl rfl ?_
     refine Ef.vmake 0 n Tryz.underlying24 el3 iv_row rfl rfl (rfl) rfl (rfl) (by omega) (by unfold maxLen; omega) ?_
     intro g5_2_1 w5_2_1 hg5_2_1 o5_2_1 h5_2_1
     refine ⟨fun _ => h5_2_1, ?_⟩
     have L9 := L8.trans h5_2_1
     refine G.run 2 rfl (G.nil ?_)
     have f10 := (o5_5_1.le h5_2_1)
     refine E.meet (g5_2_1, g5_5_1) (.cons rfl (.cons rfl (.cons rfl (.cons rfl (.cons rfl (.nil _)))))) ?_
     exact ⟨L9, by have := d5.size; have := h5_5_1.size; have := h5_2_1.size; omega, (o5_2_1.mono (by have := d5.size; have := h5_5_1.size; omega)), (f10.mono (by have := d5.size; omega)), (Apart.symm (fun q h1 h2 => by have := (o5_5_1.row h1).2; have := (o5_2_1.row h2).1; omega))⟩
    rintro ⟨g1, g2⟩ wc6 ⟨Lc1, sc1, o1_9, o1_10, ap1_9_10⟩
    have lc1_2 : w3_5.heap.size ≤ wc6.heap.size := by have := sc1; omega
    have lc1_3 : w3_5.heap.size ≤ wc6.heap.size := by have := sc1; omega
    refine WC.seq (WC.sr (W.run 1 rfl ?_))
    refine W.r (.len Tryz.underlying22 rfl) ?_
    refine W.a (.sub rfl rfl (by omega)) ?_
    refine W.run 1 rfl (W.nx (WC.block ?_))
    refine WC.loop (ι := Nat × Int × Int × (Option (Int × Int)) × (List (Int × Int))) (fun ⟨j, am, ex, nx, l⟩ => [(0, .slice A n c), (1, .int .i64 (am)), (2, .int .i64 (ex)), (9, .slice (some ⟨g1, 0, none⟩) n n), (10, .slice (some ⟨g2, 0, none⟩) n n), (11, .int .i64 (((j : Nat) : Int) - 1))]) (fun ⟨j, am, ex, nx, l⟩ wl0 => (j ≤ n) ∧ (l.length = n - j) ∧ (costF a x (xs.drop j) = .ok (nx, l)) ∧ (0 < j → nx = some (am, ex) ∧ 0 ≤ am ∧ am ≤ 1125899906842624 ∧ 0 ≤ ex ∧ ex ≤ 2097152) ∧ Le w wl0 ∧ wc6.heap.size ≤ wl0.heap.size ∧ OVec wl0 w3_5.heap.size 3 iv 1 (some ⟨g1, 0, none⟩) n n (List.replicate j 0 ++ l.map Prod.fst) ∧ OVec wl0 w3_5.heap.size 3 iv 1 (some ⟨g2, 0, none⟩) n n (List.replicate j 0 ++ l.map Prod.snd)) (fun ⟨j, am, ex, nx, l⟩ => j) (n, a, x, some (a, x), []) ?_ ?_ ?_
    ·exact .cons rfl (.cons rfl (.cons rfl (.cons rfl (.cons rfl (.cons rfl (.nil _))))))
    ·exact ⟨Nat.le_refl _, by simp, by rw [List.drop_of_length_le (by omega)]; rfl, fun _ => ⟨rfl, by omega, by omega, by omega, by omega⟩, Lc1, Nat.le_refl _, (o1_9).cast rfl (by simp), (o1_10).cast rfl (by simp)⟩
    rintro ⟨j, am, ex, nx, l⟩ wl0 ⟨hj, hll, hF, hnx, Ll0, zl0, f0_0, f0_1⟩
    have lb0_2 : w3_5.heap.size ≤ wl0.heap.size := Nat.le_trans lc1_3 (by omega)
    have lb0_3 : w3_5.heap.size ≤ wl0.heap.size := Nat.le_trans lc1_3 (by omega)
    refine WC.seq (WC.sr (W.run 2 rfl (W.nx ?_)))
    by_cases c2 : 0 ≤ (((j : Nat) : Int) - 1)
    ·refine WC.condY rfl (decide_eq_true c2) ?_
     obtain ⟨rfl, ham0, ham1, hex0, hex1⟩ := hnx (by omega)
     have hok := edgeOk_T (wayG_at (by assumption : wayG xs = true) (i := j - 1) (by omega)).1
     have hpk := polOk_T hok.2.2.2.2.2
     have hpI := polI_ok hok.2.2.2.2.2
     refine WC.sn (WC.seq (WC.block (WC.sr (W.run 2 rfl ?_))))
     refine W.a (.idxS ((j - 1)) Tryz.underlying22 sz51 rfl rfl (hV.isSome edgeV_row (by omega)) (by omega) (by omega)) ?_
     refine W.r (.vload ag51 rfl (hV.le Ll0) edgeV_row (getS xs noEdge (by omega))) ?_
     refine W.ef rfl rfl rfl ?_
     refine Ef.allocA z51 ?_
     intro g9_4 w9_4 hg9_4 b9_4 h9_4
     have L11 := Ll0.trans h9_4
     have b9_4 : Blk w9_4 g9_4 51 (edgeV noEdge).toArray := b9_4
     refine W.ef0 rfl rfl ?_
     refine Ef.storeAll sz51 (by rfl) rfl rfl b9_4 (by simp only [List.size_toArray, edgeV_row.len]) (edgeV_row.one (xs.getD (j - 1) noEdge)) ?_
     intro w9_5 b9_5 h9_5
     have b9_5 : Blk w9_5 g9_4 51 (edgeV (xs.getD (j - 1) noEdge)).toArray := b9_5
     have L12 := L11.then_ h9_5 (fun q hq => by cases hq; exact Nat.le_trans Ll0.size hg9_4)
     refine W.nx (WC.seq (WC.block (WC.sr (W.run 1 rfl ?_))))
     refine W.a (.field0 fa51_4 rfl) ?_
     refine W.a (.field2 fa49_3 rfl) ?_
     refine W.r (.loadB (v := .int .i64 ((xs.getD (j - 1) noEdge).pol.l)) na3 rfl b9_5 rfl) ?_
     refine W.a (.field0 fa51_4 rfl) ?_
     refine W.a (.field2 fa49_4 rfl) ?_
     refine W.r (.loadB (v := .int .i64 ((xs.getD (j - 1) noEdge).pol.m)) na3 rfl b9_5 rfl) ?_
     refine W.a (.field0 fa51_3 rfl) ?_
     refine W.r (.loadB (v := .int .i64 ((xs.getD (j - 1) noEdge).r)) na3 rfl b9_5 rfl) ?_
     refine W.r (.min2 rfl rfl) ?_
     refine W.cl go64 rfl rfl (gin_ok am ((xs.getD (j - 1) noEdge).pol.l) (min ((xs.getD (j - 1) noEdge).pol.m) ((xs.getD (j - 1) noEdge).r)) w9_5) ?_
     rintro _ w10_10 ⟨rfl, h10_10⟩
     have L13 := L12.trans h10_10
     refine W.run 2 rfl (W.nx ?_)
     by_cases c3 : (inB am ((xs.getD (j - 1) noEdge).pol.l) (min ((xs.getD (j - 1) noEdge).pol.m) ((xs.getD (j - 1) noEdge).r))) = true
     ·refine WC.condN rfl (congrArg not (c3)) ?_
      refine WC.sr (W.run 3 rfl (W.nx ?_))
      by_cases c4 : 1048576 < ex
      ·refine WC.condY rfl (decide_eq_true c4) ?_
       refine WC.sr (W.run 3 rfl (W.nx (WC.ret (E.blkR (E.thenR (E.blkR (E.thenR (E.thenR (E.blkR (E.thenR ?_))))))))))
       refine E.retG3 rfl rfl rfl rfl ?_
       have hc : costG xs a x = ([], [], 16) := costG_er (by assumption) (by assumption) (by assumption) (costF_late (by omega) (by omega) hF (by assumption) (by omega))
       exact ⟨none, 0, none, 0, by rw [hc]; rfl, by rw [hc]; exact OVec.nil _ _ _ _ _ _, by rw [hc]; exact OVec.nil _ _ _ _ _ _, L13⟩
      refine WC.condN rfl (decide_eq_false c4) ?_
      refine WC.skip (E.blkN (E.thenN (WC.sr (W.run 6 rfl ?_))))
      refine W.a (.idxS ((j - 1)) Tryz.underlying24 sz3 rfl rfl (o1_9.vec.isSome iv_row (by omega)) (by omega) (by omega)) ?_
      have f14 := (((f0_0.le h9_4).ch h9_5 (fun q hq => by cases hq; exact (fun he => by have := (f0_0.row he).2; omega))).le h10_10)
      refine W.ef0 rfl rfl ?_
      refine Ef.vset (j := (j - 1)) (o := 0) am sz3 rfl (by omega) rfl f14 iv_row (getS (List.replicate j 0 ++ l.map Prod.fst) 0 (by simp; omega)) (by decide) rfl rfl ?_
      intro w14_7 o14_7 h14_7
      have L15 := L13.then_ h14_7 (fun q hq => Nat.le_trans L3.size (f14.row hq).1)
      have o16 := o14_7.cast (m' := n) (ys := (List.replicate (j - 1) 0 ++ am :: l.map Prod.fst)) (rfl) (rep_set _ _ _ (by omega))
      refine W.a (.idxS ((j - 1)) Tryz.underlying24 sz3 rfl rfl (o1_10.vec.isSome iv_row (by omega)) (by omega) (by omega)) ?_
      have f17 := ((((f0_1.le h9_4).ch h9_5 (fun q hq => by cases hq; exact (fun he => by have := (f0_1.row he).2; omega))).le h10_10).ch h14_7 (ap1_9_10))
      refine W.ef0 rfl rfl ?_
      refine Ef.vset (j := (j - 1)) (o := 0) ex sz3 rfl (by omega) rfl f17 iv_row (getS (List.replicate j 0 ++ l.map Prod.snd) 0 (by simp; omega)) (by decide) rfl rfl ?_
      intro w14_9 o14_9 h14_9
      have L18 := L15.then_ h14_9 (fun q hq => Nat.le_trans L3.size (f17.row hq).1)
      have o19 := o14_9.cast (m' := n) (ys := (List.replicate (j - 1) 0 ++ ex :: l.map Prod.snd)) (rfl) (rep_set _ _ _ (by omega))
      refine W.nx (WC.sr ?_)
      refine W.a (.field0 fa51_4 rfl) ?_
      have f20 := (((b9_5.le h10_10).ch h14_7 (fun he => by have := (f0_0.row he).2; omega)).ch h14_9 (fun he => by have := (f0_1.row he).2; omega))
      refine W.r (.bpart (polV ((xs.getD (j - 1) noEdge).pol)) ag49 rfl (by decide) rfl f20 rfl) ?_
      refine W.run 1 rfl ?_
      refine W.cl go85 rfl rfl (hfee_ok ((xs.getD (j - 1) noEdge).pol) am hpI w14_9) ?_
      rintro _ w15_3 ⟨rfl, h15_3⟩
      have L21 := L18.trans h15_3
      refine W.run 5 rfl (W.nx (WC.sr (W.run 2 rfl ?_)))
      refine W.cl go86 rfl rfl (nadd_ok am ((feeG ((xs.getD (j - 1) noEdge).pol) am).1) w15_3) ?_
      rintro _ w16_2 ⟨rfl, h16_2⟩
      have L22 := L21.trans h16_2
      refine W.run 5 rfl (W.nx (WC.seq (WC.sr (W.run 2 rfl ?_))))
      by_cases q17_2 : 0 < (((j : Nat) : Int) - 1)
      ·refine W.dt q17_2 rfl rfl (W.run 2 rfl ?_)
       by_cases q17_5 : ((feeG ((xs.getD (j - 1) noEdge).pol) am).2) = true
       ·refine W.g (Any.rd (.dec (.move rfl) (congrArg not (q17_5))) _) ?_
        refine W.run 2 rfl ?_
        refine W.g (Any.rd (.pickF rfl rfl rfl) _) ?_
        refine W.run 1 rfl (W.nx ?_)
        by_cases c5 : ((addC am ((feeG ((xs.getD (j - 1) noEdge).pol) am).1)).2) = true
        ·refine WC.condN rfl (congrArg not (c5)) ?_
         refine WC.sn ?_
         refine WC.draw [0, 1, 2, 3, 4, 5, 6, 7] mixed (by kernel_rfl) ?_
         intro w19 d19
         have L23 := L22.trans d19
         refine G.run 2 rfl ?_
         refine G.a rfl (.field0 fa51_4 rfl) ?_
         refine G.a rfl (.field2 fa49_2 rfl) ?_
         have f24 := (f20.le (h15_3.trans (h16_2.trans d19)))
         refine G.r rfl (.loadB (v := .int .i64 ((xs.getD (j - 1) noEdge).pol.d)) na3 rfl f24 rfl) ?_
         refine G.a rfl (.add rfl rfl (by omega)) ?_
         refine G.run 2 rfl (G.nil (E.blkN (E.thenN (WC.region (W.run 1 rfl ?_)))))
         refine W.a (.sub rfl rfl (by omega)) ?_
         refine W.run 1 rfl (W.nil ?_)
         have f25 := ((o16.ch h14_9 ((Apart.symm ap1_9_10))).le (h15_3.trans (h16_2.trans d19)))
         have f26 := (o19.le (h15_3.trans (h16_2.trans d19)))
         refine E.again (j - 1, (addC am (feeG (xs.getD (j - 1) noEdge).pol am).1).1, ex + (xs.getD (j - 1) noEdge).pol.d, nextC (xs.getD (j - 1) noEdge) am ex, (am, ex) :: l) (.cons rfl (.cons rfl (.cons rfl (.cons rfl (.cons rfl (.cons' rfl (int_eq (by omega)) (.nil _))))))) ?_ ?_
         ·exact ⟨by omega, by simp; omega, costF_step (by omega) (by omega) hF (by assumption) (by omega), fun h0 => by first | (exfalso; omega) | (have hv := addC_val (by assumption : (addC am (feeG (xs.getD (j - 1) noEdge).pol am).1).2 = true); rw [hv.1]; exact ⟨by rw [nextC_some (by assumption) (by assumption), hv.1], by omega, by omega, by omega, by omega⟩), L23, by have := zl0; have := h9_4.size; have := h9_5.size; have := h10_10.size; have := h14_7.size; have := h14_9.size; have := h15_3.size; have := h16_2.size; have := d19.size; omega, f25, f26⟩
         first | omega | (simp only []; omega)
        refine WC.condY rfl (congrArg not ((Bool.eq_false_iff.2 c5))) ?_
        refine WC.sr (W.run 3 rfl (W.nx (WC.ret (E.thenR (E.blkR (E.thenR (E.thenR (E.blkR (E.thenR ?_)))))))))
        refine E.retG3 rfl rfl rfl rfl ?_
        have hc : costG xs a x = ([], [], 6) := costG_er (by assumption) (by assumption) (by assumption) (by first | exact costF_six (by omega) (by omega) hF (by assumption) | exact costF_none (j := j - 1) (by omega) (by omega) (by rw [costF_step (by omega) (by omega) hF (by assumption) (by omega), nextC_none (by first | exact .inl (by assumption) | exact .inr (by assumption))]))
        exact ⟨none, 0, none, 0, by rw [hc]; rfl, by rw [hc]; exact OVec.nil _ _ _ _ _ _, by rw [hc]; exact OVec.nil _ _ _ _ _ _, L22⟩
       refine W.g (Any.rd (.dec (.move rfl) (congrArg not ((Bool.eq_false_iff.2 q17_5)))) _) ?_
       refine W.run 2 rfl ?_
       refine W.g (Any.rd (.pickT rfl rfl rfl) _) ?_
       refine W.run 1 rfl (W.nx (WC.condT rfl (WC.sr (W.run 3 rfl (W.nx (WC.ret (E.thenR (E.blkR (E.thenR (E.thenR (E.blkR (E.thenR ?_))))))))))))
       refine E.retG3 rfl rfl rfl rfl ?_
       have hc : costG xs a x = ([], [], 6) := costG_er (by assumption) (by assumption) (by assumption) (by first | exact costF_six (by omega) (by omega) hF (by assumption) | exact costF_none (j := j - 1) (by omega) (by omega) (by rw [costF_step (by omega) (by omega) hF (by assumption) (by omega), nextC_none (by first | exact .inl (by assumption) | exact .inr (by assumption))]))
       exact ⟨none, 0, none, 0, by rw [hc]; rfl, by rw [hc]; exact OVec.nil _ _ _ _ _ _, by rw [hc]; exact OVec.nil _ _ _ _ _ _, L22⟩
      refine W.df q17_2 rfl rfl (W.run 3 rfl ?_)
      refine W.skipu rfl rfl rfl rfl rfl ?_
      refine W.skipu rfl rfl rfl rfl rfl ?_
      refine W.run 2 rfl (W.nx (WC.condF rfl (WC.sn ?_)))
      refine WC.draw [0, 1, 2, 3, 4, 5, 6, 7] mixed (by kernel_rfl) ?_
      intro w19 d19
      have L27 := L22.trans d19
      refine G.run 2 rfl ?_
      refine G.a rfl (.field0 fa51_4 rfl) ?_
      refine G.a rfl (.field2 fa49_2 rfl) ?_
      have f28 := (f20.le (h15_3.trans (h16_2.trans d19)))
      refine G.r rfl (.loadB (v := .int .i64 ((xs.getD (j - 1) noEdge).pol.d)) na3 rfl f28 rfl) ?_
      refine G.a rfl (.add rfl rfl (by omega)) ?_
      refine G.run 2 rfl (G.nil (E.blkN (E.thenN (WC.region (W.run 1 rfl ?_)))))
      refine W.a (.sub rfl rfl (by omega)) ?_
      refine W.run 1 rfl (W.nil ?_)
      have f29 := ((o16.ch h14_9 ((Apart.symm ap1_9_10))).le (h15_3.trans (h16_2.trans d19)))
      have f30 := (o19.le (h15_3.trans (h16_2.trans d19)))
      refine E.again (j - 1, (addC am (feeG (xs.getD (j - 1) noEdge).pol am).1).1, ex + (xs.getD (j - 1) noEdge).pol.d, nextC (xs.getD (j - 1) noEdge) am ex, (am, ex) :: l) (.cons rfl (.cons rfl (.cons rfl (.cons rfl (.cons rfl (.cons' rfl (int_eq (by omega)) (.nil _))))))) ?_ ?_
      ·exact ⟨by omega, by simp; omega, costF_step (by omega) (by omega) hF (by assumption) (by omega), fun h0 => by first | (exfalso; omega) | (have hv := addC_val (by assumption : (addC am (feeG (xs.getD (j - 1) noEdge).pol am).1).2 = true); rw [hv.1]; exact ⟨by rw [nextC_some (by assumption) (by assumption), hv.1], by omega, by omega, by omega, by omega⟩), L27, by have := zl0; have := h9_4.size; have := h9_5.size; have := h10_10.size; have := h14_7.size; have := h14_9.size; have := h15_3.size; have := h16_2.size; have := d19.size; omega, f29, f30⟩
      first | omega | (simp only []; omega)
     refine WC.condY rfl (congrArg not ((Bool.eq_false_iff.2 c3))) ?_
     refine WC.sr (W.run 3 rfl (W.nx (WC.ret (E.blkR (E.thenR (E.blkR (E.thenR (E.thenR (E.blkR (E.thenR ?_))))))))))
     refine E.retG3 rfl rfl rfl rfl ?_
     have hc : costG xs a x = ([], [], 6) := costG_er (by assumption) (by assumption) (by assumption) (by first | exact costF_six (by omega) (by omega) hF (by assumption) | exact costF_none (j := j - 1) (by omega) (by omega) (by rw [costF_step (by omega) (by omega) hF (by assumption) (by omega), nextC_none (by first | exact .inl (by assumption) | exact .inr (by assumption))]))
     exact ⟨none, 0, none, 0, by rw [hc]; rfl, by rw [hc]; exact OVec.nil _ _ _ _ _ _, by rw [hc]; exact OVec.nil _ _ _ _ _ _, L13⟩
    refine WC.condN rfl (decide_eq_false c2) ?_
    have hj0 : j = 0 := by omega
    refine WC.exit (E.thenX (E.thenX (E.blkH (E.thenN (WC.sr (W.run 5 rfl (W.nx (WC.ret ?_))))))))
    refine E.retG3 rfl rfl rfl rfl ?_
    have hc := costG_ok (by assumption) (by assumption) (by assumption) (show costF a x xs = .ok (nx, l) by rw [show j = 0 by omega] at hF; exact hF)
    subst hj0
    exact ⟨some ⟨g1, 0, none⟩, n, some ⟨g2, 0, none⟩, n, by rw [hc]; simp [show l.length = n by omega], by rw [hc]; exact ((f0_0.mono L3.size)).cast (by simp; omega) (by simp), by rw [hc]; exact ((f0_1.mono L3.size)).cast (by simp; omega) (by simp), Ll0⟩
   refine WC.condY rfl (congrArg not ((Bool.eq_false_iff.2 c1))) ?_
   refine WC.sr (W.run 3 rfl (W.nx (WC.ret (E.thenR ?_))))
   refine E.retG3 rfl rfl rfl rfl ?_
   have hc : costG xs a x = ([], [], 1) := costG_arg (by assumption) (by first | exact .inl (by assumption) | exact .inr (by assumption))
   exact ⟨none, 0, none, 0, by rw [hc]; rfl, by rw [hc]; exact OVec.nil _ _ _ _ _ _, by rw [hc]; exact OVec.nil _ _ _ _ _ _, L3⟩
  refine W.a (.dec (.move rfl) (congrArg not ((Bool.eq_false_iff.2 q3_3)))) ?_
  refine W.run 4 rfl (W.nx (WC.condT rfl (WC.sr (W.run 3 rfl (W.nx (WC.ret (E.thenR ?_)))))))
  refine E.retG3 rfl rfl rfl rfl ?_
  have hc : costG xs a x = ([], [], 1) := costG_arg (by assumption) (by first | exact .inl (by assumption) | exact .inr (by assumption))
  exact ⟨none, 0, none, 0, by rw [hc]; rfl, by rw [hc]; exact OVec.nil _ _ _ _ _ _, by rw [hc]; exact OVec.nil _ _ _ _ _ _, L2⟩
 refine WC.condY rfl (congrArg not ((Bool.eq_false_iff.2 c0))) ?_
 refine WC.sr (W.run 3 rfl (W.nx (WC.ret (E.thenR ?_))))
 refine E.retG3 rfl rfl rfl rfl ?_
 have hc : costG xs a x = ([], [], 19) := costG_way (by assumption)
 exact ⟨none, 0, none, 0, by rw [hc]; rfl, by rw [hc]; exact OVec.nil _ _ _ _ _ _, by rw [hc]; exact OVec.nil _ _ _ _ _ _, L1⟩
end Go.Proofs.YtmkdeemjkcigkaaGreatDoor

namespace Go.Proofs.YtmkdeemjkcigkaaGreatDoor
open Go Go.Sx Go.Num Go.Osp Go.Gsp
set_option maxRecDepth 20000
theorem eqv_pol {d : Nat} (a b : Pol) : Eqv Tryz.prog (d + 2) 49 (.agg (polV a).toArray) (.agg (polV b).toArray) (decide (a = b)) := by
  have h := Eqv.ints (P := Tryz.prog) (d := d) (t := 49) (polV a) (polV b) [(.i64, 0), (.i64, 1), (.i64, 2), (.i64, 3), (.i64, 4)] (by kernel_rfl) (by kernel_rfl) (by
    rw [show (Tryz.prog.fieldsOf 49) = _ from (by unfold Program.fieldsOf; rw [Tryz.underlying49])]
    exact ⟨by decide, rfl, Tryz.underlying3, ⟨_, _, rfl, rfl⟩, by decide, rfl, Tryz.underlying3, ⟨_, _, rfl, rfl⟩, by decide, rfl, Tryz.underlying3, ⟨_, _, rfl, rfl⟩, by decide, rfl, Tryz.underlying3, ⟨_, _, rfl, rfl⟩, by decide, rfl, Tryz.underlying3, ⟨_, _, rfl, rfl⟩, trivial⟩)
  have e : eqAll (polV a) (polV b) [(.i64, 0), (.i64, 1), (.i64, 2), (.i64, 3), (.i64, 4)] = decide (a = b) := by
    obtain ⟨a1, a2, a3, a4, a5⟩ := a
    obtain ⟨b1, b2, b3, b4, b5⟩ := b
    simp only [eqAll, polV, List.getElem?_cons_zero, List.getElem?_cons_succ, Pol.mk.injEq]
    rw [Bool.eq_iff_iff]
    simp only [Bool.and_eq_true, decide_eq_true_eq, Bool.and_true]
  rw [e] at h
  exact h
theorem eqv_edge {d : Nat} (a b : Gsp.Edge) : Eqv Tryz.prog (d + 3) 51 (.agg (edgeV a).toArray) (.agg (edgeV b).toArray) (decide (a = b)) := by
  have h := Eqv.struct (P := Tryz.prog) (d := d + 2) (t := 51) (edgeV a).toArray (edgeV b).toArray [(0, .int .i64 a.f, .int .i64 b.f, decide (a.f = b.f)), (1, .int .i64 a.t, .int .i64 b.t, decide (a.t = b.t)), (2, .int .i64 a.c, .int .i64 b.c, decide (a.c = b.c)), (3, .int .i64 a.r, .int .i64 b.r, decide (a.r = b.r)), (4, .agg (polV a.pol).toArray, .agg (polV b.pol).toArray, decide (a.pol = b.pol))] (by kernel_rfl) (by kernel_rfl) (by
    rw [show (Tryz.prog.fieldsOf 51) = _ from (by unfold Program.fieldsOf; rw [Tryz.underlying51])]
    exact ⟨by decide, rfl, run_part1 na3 rfl, run_part1 na3 rfl, Eqv.int _ _ Tryz.underlying3, by decide, rfl, run_part1 na3 rfl, run_part1 na3 rfl, Eqv.int _ _ Tryz.underlying3, by decide, rfl, run_part1 na3 rfl, run_part1 na3 rfl, Eqv.int _ _ Tryz.underlying3, by decide, rfl, run_part1 na3 rfl, run_part1 na3 rfl, Eqv.int _ _ Tryz.underlying3, by decide, rfl, run_partA (polV a.pol) ag49 rfl rfl, run_partA (polV b.pol) ag49 rfl rfl, eqv_pol _ _, trivial⟩)
  have e : (decide (a.f = b.f) && (decide (a.t = b.t) && (decide (a.c = b.c) && (decide (a.r = b.r) && (decide (a.pol = b.pol) && true))))) = decide (a = b) := by
    obtain ⟨a1, a2, a3, a4, a5⟩ := a
    obtain ⟨b1, b2, b3, b4, b5⟩ := b
    rw [Bool.eq_iff_iff]
    simp [Gsp.Edge.mk.injEq]
  have h' : Eqv Tryz.prog (d + 3) 51 (.agg (edgeV a).toArray) (.agg (edgeV b).toArray) (decide (a.f = b.f) && (decide (a.t = b.t) && (decide (a.c = b.c) && (decide (a.r = b.r) && (decide (a.pol = b.pol) && true))))) := h
  rw [e] at h'
  exact h'

theorem mulhalf_step (an nn k : Nat) : an / 2 ^ k * nn = 2 * (an / 2 ^ (k + 1) * nn) + an / 2 ^ k % 2 * nn := by
  have h : an / 2 ^ k = 2 * (an / 2 ^ (k + 1)) + an / 2 ^ k % 2 := by rw [Nat.pow_succ, ← Nat.div_div_eq_div_mul]; omega
  calc an / 2 ^ k * nn = (2 * (an / 2 ^ (k + 1)) + an / 2 ^ k % 2) * nn := by rw [← h]
    _ = _ := by rw [Nat.add_mul, Nat.mul_assoc]
theorem part_stepd (d q r n X : Nat) (h : q * d + r = X) : (2 * q + 2 * r / d + n / d + (2 * r % d + n % d) / d) * d + (2 * r % d + n % d) % d = 2 * X + n := by
  have e1 := Nat.div_add_mod (2 * r) d
  have e2 := Nat.div_add_mod n d
  have e3 := Nat.div_add_mod (2 * r % d + n % d) d
  rw [Nat.add_mul, Nat.add_mul, Nat.add_mul, Nat.mul_comm (2 * r / d), Nat.mul_comm (n / d), Nat.mul_comm ((2 * r % d + n % d) / d), Nat.mul_assoc]
  omega
theorem part_step1 (q r n X : Nat) (h : q * 1000000 + r = X) : (2 * q + 2 * r / 1000000 + n / 1000000 + (2 * r % 1000000 + n % 1000000) / 1000000) * 1000000 + (2 * r % 1000000 + n % 1000000) % 1000000 = 2 * X + n := part_stepd 1000000 q r n X h
theorem part_step0 (q r X : Nat) (h : q * 1000000 + r = X) : (2 * q + 2 * r / 1000000 + 2 * r % 1000000 / 1000000) * 1000000 + 2 * r % 1000000 % 1000000 = 2 * X := by
  have := part_stepd 1000000 q r 0 X h
  rw [Nat.zero_div, Nat.zero_mod, Nat.add_zero, Nat.add_zero, Nat.add_zero] at this
  exact this
theorem mul_mono (an nn k : Nat) : an / 2 ^ k * nn ≤ an * nn := Nat.mul_le_mul_right _ (Nat.div_le_self _ _)
theorem r33in_ok (n lo hi : Int) (w : World) : Calls Tryz.prog 140 #[.int .i64 (n), .int .i64 (lo), .int .i64 (hi)] w fun r w' => r = .returned (.bool (inB n lo hi)) ∧ Le w w' := by
 refine enter Tryz.func140 rfl rfl ?_
 have L0 := Le.refl w
 refine WC.sr (W.run 1 rfl (W.nx (WC.sr (W.run 3 rfl ?_))))
 by_cases q1_3 : lo ≤ n
 ·refine W.dt q1_3 rfl rfl (W.run 5 rfl (W.nx (WC.ret ?_)))
  refine E.retG1 rfl rfl ?_
  exact ⟨rB (by simp [inB, q1_3]), L0⟩
 refine W.df q1_3 rfl rfl (W.run 5 rfl (W.nx (WC.ret ?_)))
 refine E.retG1 rfl rfl ?_
 exact ⟨rB (by simp [inB, q1_3]), L0⟩

theorem r36in_ok (n lo hi : Int) (w : World) : Calls Tryz.prog 88 #[.int .i64 (n), .int .i64 (lo), .int .i64 (hi)] w fun r w' => r = .returned (.bool (inB n lo hi)) ∧ Le w w' := by
 refine enter Tryz.func88 rfl rfl ?_
 have L0 := Le.refl w
 refine WC.sr (W.run 1 rfl (W.nx (WC.sr (W.run 3 rfl ?_))))
 by_cases q1_3 : lo ≤ n
 ·refine W.dt q1_3 rfl rfl (W.run 5 rfl (W.nx (WC.ret ?_)))
  refine E.retG1 rfl rfl ?_
  exact ⟨rB (by simp [inB, q1_3]), L0⟩
 refine W.df q1_3 rfl rfl (W.run 5 rfl (W.nx (WC.ret ?_)))
 refine E.retG1 rfl rfl ?_
 exact ⟨rB (by simp [inB, q1_3]), L0⟩

theorem rcoins_ok (a : Int) (w : World) : Calls Tryz.prog 116 #[.int .i64 (a)] w fun r w' => r = .returned (.bool (coinB a)) ∧ Le w w' := by
 refine enter Tryz.func116 rfl rfl ?_
 have L0 := Le.refl w
 refine WC.sr (W.run 1 rfl (W.nx (WC.sr (W.run 2 rfl ?_))))
 by_cases q1_2 : 0 ≤ a
 ·refine W.dt q1_2 rfl rfl (W.run 4 rfl (W.nx (WC.ret ?_)))
  refine E.retG1 rfl rfl ?_
  exact ⟨rB (by simp [coinB, inB, q1_2]), L0⟩
 refine W.df q1_2 rfl rfl (W.run 4 rfl (W.nx (WC.ret ?_)))
 refine E.retG1 rfl rfl ?_
 exact ⟨rB (by simp [coinB, inB, q1_2]), L0⟩

theorem radd_ok (a b : Int) (w : World) : Calls Tryz.prog 90 #[.int .i64 (a), .int .i64 (b)] w fun r w' => r = .returned (.tuple #[.int .i64 (addC a b).1, .bool (addC a b).2]) ∧ Le w w' := by
 refine enter Tryz.func90 rfl rfl ?_
 have L0 := Le.refl w
 refine WC.sr (W.run 2 rfl (W.nx (WC.seq (WC.sr (W.run 1 rfl ?_)))))
 refine W.cl go116 rfl rfl (rcoins_ok a w) ?_
 rintro _ w1_1 ⟨rfl, h1_1⟩
 have L1 := L0.trans h1_1
 refine W.run 1 rfl ?_
 by_cases q1_3 : (coinB a) = true
 ·refine W.a (.dec (.move rfl) (congrArg not (q1_3))) ?_
  refine W.run 1 rfl ?_
  refine W.efg rfl rfl rfl (rfl) rfl rfl ?_
  refine Ef.call go116 rfl rfl (rcoins_ok b w1_1) ?_
  rintro _ w1_5 ⟨rfl, h1_5⟩
  refine ⟨_, rfl, ?_⟩
  have L2 := L1.trans h1_5
  refine W.run 2 rfl ?_
  by_cases q1_8 : (coinB b) = true
  ·refine W.a (.dec (.move rfl) (congrArg not (q1_8))) ?_
   refine W.run 2 rfl ?_
   have hb1 := inB_T (show inB b 0 1125899906842624 = true by assumption)
   have ha1 := inB_T (show inB a 0 1125899906842624 = true by assumption)
   refine W.g (Any.rd (.add rfl rfl (by omega)) _) ?_
   refine W.efg rfl rfl rfl (rfl) rfl rfl ?_
   refine Ef.call go116 rfl rfl (rcoins_ok (a + b) w1_5) ?_
   rintro _ w1_12 ⟨rfl, h1_12⟩
   refine ⟨_, rfl, ?_⟩
   have L3 := L2.trans h1_12
   refine W.run 2 rfl (W.nx ?_)
   by_cases c0 : (coinB (a + b)) = true
   ·refine WC.condN rfl (congrArg not (c0)) ?_
    refine WC.sn (WC.sr (W.run 2 rfl ?_))
    refine W.a (.add rfl rfl (by omega)) ?_
    refine W.run 2 rfl (W.nx (WC.ret ?_))
    refine E.retG2 rfl rfl rfl ?_
    exact ⟨by unfold addC; first | (simp [q1_3, q1_8, c0]; done) | (have hq := inB_T (show inB (a + b) 0 1125899906842624 = true by assumption); rw [if_pos (by simp [q1_3, q1_8, c0]; omega)]) | (have hq := inB_F (show inB (a + b) 0 1125899906842624 = false from Bool.eq_false_iff.2 (by assumption)); rw [if_neg (by simp [q1_3, q1_8, c0]; omega)]), L3⟩
   refine WC.condY rfl (congrArg not ((Bool.eq_false_iff.2 c0))) ?_
   refine WC.sr (W.run 2 rfl (W.nx (WC.ret (E.thenR ?_))))
   refine E.retG2 rfl rfl rfl ?_
   exact ⟨by unfold addC; first | (simp [q1_3, q1_8, c0]; done) | (have hq := inB_T (show inB (a + b) 0 1125899906842624 = true by assumption); rw [if_pos (by simp [q1_3, q1_8, c0]; omega)]) | (have hq := inB_F (show inB (a + b) 0 1125899906842624 = false from Bool.eq_false_iff.2 (by assumption)); rw [if_neg (by simp [q1_3, q1_8, c0]; omega)]), L3⟩
  refine W.a (.dec (.move rfl) (congrArg not ((Bool.eq_false_iff.2 q1_8)))) ?_
  refine W.run 6 rfl (W.nx (WC.condT rfl (WC.sr (W.run 2 rfl (W.nx (WC.ret (E.thenR ?_)))))))
  refine E.retG2 rfl rfl rfl ?_
  exact ⟨by unfold addC; first | (simp [q1_3, q1_8]; done) | (have hq := inB_T (show inB (a + b) 0 1125899906842624 = true by assumption); rw [if_pos (by simp [q1_3, q1_8]; omega)]) | (have hq := inB_F (show inB (a + b) 0 1125899906842624 = false from Bool.eq_false_iff.2 (by assumption)); rw [if_neg (by simp [q1_3, q1_8]; omega)]), L2⟩
 refine W.a (.dec (.move rfl) (congrArg not ((Bool.eq_false_iff.2 q1_3)))) ?_
 refine W.run 11 rfl (W.nx (WC.condT rfl (WC.sr (W.run 2 rfl (W.nx (WC.ret (E.thenR ?_)))))))
 refine E.retG2 rfl rfl rfl ?_
 exact ⟨by unfold addC; first | (simp [q1_3]; done) | (have hq := inB_T (show inB (a + b) 0 1125899906842624 = true by assumption); rw [if_pos (by simp [q1_3]; omega)]) | (have hq := inB_F (show inB (a + b) 0 1125899906842624 = false from Bool.eq_false_iff.2 (by assumption)); rw [if_neg (by simp [q1_3]; omega)]), L1⟩

theorem rparts_ok (a num : Int) (hn : num ≤ 9223372036854775807) (w : World) : Calls Tryz.prog 142 #[.int .i64 (a), .int .i64 (num), .int .i64 (1000000)] w fun r w' => ∃ z : Int, r = .returned (.tuple #[.int .i64 (partC a num).1, .int .i64 z, .bool (partC a num).2]) ∧ Le w w' := by
 refine enter Tryz.func142 rfl rfl ?_
 have L0 := Le.refl w
 refine WC.sr (W.run 3 rfl (W.nx (WC.seq (WC.sr (W.run 1 rfl ?_)))))
 refine W.cl go116 rfl rfl (rcoins_ok a w) ?_
 rintro _ w1_1 ⟨rfl, h1_1⟩
 have L1 := L0.trans h1_1
 refine W.run 1 rfl ?_
 by_cases q1_3 : (coinB a) = true
 ·refine W.a (.dec (.move rfl) (congrArg not (q1_3))) ?_
  refine W.run 3 rfl ?_
  by_cases q1_7 : num < 0
  ·refine W.dt q1_7 rfl rfl (W.run 3 rfl (W.nx (WC.condT rfl (WC.sr (W.run 3 rfl (W.nx (WC.ret (E.thenR ?_))))))))
   refine E.retG3 rfl rfl rfl rfl ?_
   exact ⟨0, (by first | rfl | (simp [partC, q1_3, q1_7]; done) | (simp [partC, q1_3, q1_7]; omega) | (simp [partC, q1_3, q1_7]; split <;> first | (exfalso; omega) | (simp; done) | (simp; omega))), L1⟩
  refine W.df q1_7 rfl rfl (W.run 1 rfl ?_)
  refine W.g (Any.rd (.dec (.lss rfl rfl) (show _ = false from by first | decide | rfl)) _) ?_
  refine W.run 1 rfl (W.nx (WC.condF rfl (WC.sn (WC.sr (W.run 1 rfl (W.nx (WC.sr (W.run 1 rfl (W.nx (WC.sr (W.run 1 rfl ?_)))))))))))
  have ha := inB_T (show inB a 0 1125899906842624 = true by assumption)
  obtain ⟨an, rfl⟩ := Int.eq_ofNat_of_zero_le ha.1
  obtain ⟨nn, rfl⟩ := Int.eq_ofNat_of_zero_le (show 0 ≤ num by omega)
  refine W.r (.idI (isS Tryz.underlying3) Tryz.underlying57 rfl (IntWalk.u64_in _ (by omega))) ?_
  refine W.run 1 rfl (W.nx (WC.sr (W.run 1 rfl ?_)))
  refine W.r (.idI (isS Tryz.underlying3) Tryz.underlying57 rfl (IntWalk.u64_in _ (by omega))) ?_
  refine W.run 1 rfl (W.nx (WC.seq (WC.sr (W.run 1 rfl (W.nx (WC.block ?_))))))
  refine WC.loop (ι := Nat × Nat × Nat) (fun ⟨kk, q, r⟩ => [(0, .int .i64 (((an : Nat) : Int))), (9, .int .u64 (((q : Nat) : Int))), (10, .int .u64 (((r : Nat) : Int))), (11, .int .u64 (1000000)), (12, .int .u64 (((nn : Nat) : Int))), (13, .int .i64 (((kk : Nat) : Int) - 1))]) (fun ⟨kk, q, r⟩ wl0 => (kk ≤ 51) ∧ (q * 1000000 + r = an / 2 ^ kk * nn) ∧ (r < 1000000) ∧ (q ≤ 1125899906842624) ∧ Le w wl0 ∧ w1_1.heap.size ≤ wl0.heap.size) (fun ⟨kk, q, r⟩ => kk) (51, 0, 0) ?_ ?_ ?_
  ·exact .cons rfl (.cons rfl (.cons rfl (.cons rfl (.cons rfl (.cons rfl (.nil _))))))
  ·exact ⟨Nat.le_refl _, by rw [Nat.div_eq_of_lt (by omega)]; simp, by decide, by decide, L1, Nat.le_refl _⟩
  rintro ⟨kk, q, r⟩ wl0 ⟨hkk, hX, hr, hq, Ll0, zl0⟩
  refine WC.seq (WC.sr (W.run 2 rfl (W.nx ?_)))
  by_cases c1 : 0 ≤ (((kk : Nat) : Int) - 1)
  ·refine WC.condY rfl (decide_eq_true c1) ?_
   have hst := mulhalf_step an nn (kk - 1)
   rw [show kk - 1 + 1 = kk by omega] at hst
   have hbit : an / 2 ^ (kk - 1) % 2 < 2 := Nat.mod_lt _ (by decide)
   have h2 : an / 2 ^ (kk - 1) ≤ an := Nat.div_le_self _ _
   refine WC.sn (WC.seq (WC.block (WC.sr (W.run 1 rfl ?_))))
   refine W.a (.mulN 2 q (2 * q) rfl rfl rfl rfl (by omega)) ?_
   refine W.run 1 rfl (W.nx (WC.sr (W.run 1 rfl ?_)))
   refine W.a (.mulN 2 r (2 * r) rfl rfl rfl rfl (by omega)) ?_
   refine W.run 1 rfl (W.nx (WC.sr (W.run 3 rfl ?_)))
   refine W.a (.quoN (2 * r) 1000000 ((2 * r) / 1000000) rfl rfl rfl rfl (by omega) (by omega) (rfl)) ?_
   refine W.a (.addN (2 * q) ((2 * r) / 1000000) ((2 * q) + ((2 * r) / 1000000)) rfl rfl rfl rfl (by omega)) ?_
   refine W.run 1 rfl (W.nx (WC.sr (W.run 2 rfl ?_)))
   refine W.a (.remN (2 * r) 1000000 ((2 * r) % 1000000) rfl rfl rfl rfl (by omega) (rfl)) ?_
   refine W.run 1 rfl (W.nx (WC.seq (WC.sr (W.run 2 rfl ?_))))
   refine W.a (.shrE an (kk - 1) (an / 2 ^ (kk - 1)) rfl rfl rfl (by omega) (by show kk - 1 ≤ 64; omega) (rfl)) ?_
   refine W.a (.andI (an / 2 ^ (kk - 1)) 1 (an / 2 ^ (kk - 1) % 2) rfl rfl rfl rfl (by omega) (by omega) (mask1 _)) ?_
   refine W.run 1 rfl (W.nx ?_)
   by_cases c2 : ((an / 2 ^ (kk - 1) % 2 : Nat) : Int) = 1
   ·refine WC.condY rfl (decide_eq_true c2) ?_
    have hb1 : an / 2 ^ (kk - 1) % 2 = 1 := by omega
    rw [hb1, Nat.one_mul] at hst
    refine WC.sr (W.run 3 rfl ?_)
    refine W.a (.quoN nn 1000000 (nn / 1000000) rfl rfl rfl rfl (by omega) (by omega) (rfl)) ?_
    refine W.a (.addN ((2 * q) + ((2 * r) / 1000000)) (nn / 1000000) (((2 * q) + ((2 * r) / 1000000)) + (nn / 1000000)) rfl rfl rfl rfl (by omega)) ?_
    refine W.run 1 rfl (W.nx (WC.region (W.run 3 rfl ?_)))
    refine W.a (.remN nn 1000000 (nn % 1000000) rfl rfl rfl rfl (by omega) (rfl)) ?_
    refine W.a (.addN ((2 * r) % 1000000) (nn % 1000000) (((2 * r) % 1000000) + (nn % 1000000)) rfl rfl rfl rfl (by omega)) ?_
    refine W.run 1 rfl (W.nx (WC.sr (W.run 3 rfl ?_)))
    refine W.a (.quoN (((2 * r) % 1000000) + (nn % 1000000)) 1000000 ((((2 * r) % 1000000) + (nn % 1000000)) / 1000000) rfl rfl rfl rfl (by omega) (by omega) (rfl)) ?_
    refine W.a (.addN (((2 * q) + ((2 * r) / 1000000)) + (nn / 1000000)) ((((2 * r) % 1000000) + (nn % 1000000)) / 1000000) ((((2 * q) + ((2 * r) / 1000000)) + (nn / 1000000)) + ((((2 * r) % 1000000) + (nn % 1000000)) / 1000000)) rfl rfl rfl rfl (by omega)) ?_
    refine W.run 1 rfl (W.nx (WC.sr (W.run 2 rfl ?_)))
    refine W.a (.remN (((2 * r) % 1000000) + (nn % 1000000)) 1000000 ((((2 * r) % 1000000) + (nn % 1000000)) % 1000000) rfl rfl rfl rfl (by omega) (rfl)) ?_
    refine W.run 1 rfl (W.nx (WC.sr (W.run 2 rfl (W.nx ?_))))
    by_cases c3 : 1125899906842624 < ((((((2 * q) + ((2 * r) / 1000000)) + (nn / 1000000)) + ((((2 * r) % 1000000) + (nn % 1000000)) / 1000000)) : Nat) : Int)
    ·refine WC.condY rfl (decide_eq_true c3) ?_
     refine WC.sr (W.run 3 rfl (W.nx (WC.ret (E.blkR (E.thenR (E.thenR (E.blkR (E.thenR ?_))))))))
     refine E.retG3 rfl rfl rfl rfl ?_
     exact ⟨0, by rw [partC_nat, if_neg (by have := mul_mono an nn (kk - 1); omega)], Ll0⟩
    refine WC.condN rfl (decide_eq_false c3) ?_
    refine WC.skip (E.blkN (E.thenN (WC.region (W.run 1 rfl ?_))))
    refine W.a (.sub rfl rfl (by omega)) ?_
    refine W.run 1 rfl (W.nil ?_)
    refine E.again (kk - 1, ((((2 * q) + ((2 * r) / 1000000)) + (nn / 1000000)) + ((((2 * r) % 1000000) + (nn % 1000000)) / 1000000)), ((((2 * r) % 1000000) + (nn % 1000000)) % 1000000)) (.cons rfl (.cons rfl (.cons rfl (.cons rfl (.cons rfl (.cons' rfl (int_eq (by omega)) (.nil _))))))) ?_ ?_
    ·exact ⟨by omega, (part_step1 q r nn _ hX).trans hst.symm, Nat.mod_lt _ (by decide), by omega, Ll0, by have := zl0; omega⟩
    first | omega | (simp only []; omega)
   refine WC.condN rfl (decide_eq_false c2) ?_
   have hb0 : an / 2 ^ (kk - 1) % 2 = 0 := by omega
   rw [hb0, Nat.zero_mul, Nat.add_zero] at hst
   refine WC.sn (WC.sr (W.run 3 rfl ?_))
   refine W.a (.quoN ((2 * r) % 1000000) 1000000 (((2 * r) % 1000000) / 1000000) rfl rfl rfl rfl (by omega) (by omega) (rfl)) ?_
   refine W.a (.addN ((2 * q) + ((2 * r) / 1000000)) (((2 * r) % 1000000) / 1000000) (((2 * q) + ((2 * r) / 1000000)) + (((2 * r) % 1000000) / 1000000)) rfl rfl rfl rfl (by omega)) ?_
   refine W.run 1 rfl (W.nx (WC.sr (W.run 2 rfl ?_)))
   refine W.a (.remN ((2 * r) % 1000000) 1000000 (((2 * r) % 1000000) % 1000000) rfl rfl rfl rfl (by omega) (rfl)) ?_
   refine W.run 1 rfl (W.nx (WC.sr (W.run 2 rfl (W.nx ?_))))
   by_cases c3 : 1125899906842624 < (((((2 * q) + ((2 * r) / 1000000)) + (((2 * r) % 1000000) / 1000000)) : Nat) : Int)
   ·refine WC.condY rfl (decide_eq_true c3) ?_
    refine WC.sr (W.run 3 rfl (W.nx (WC.ret (E.blkR (E.thenR (E.thenR (E.blkR (E.thenR ?_))))))))
    refine E.retG3 rfl rfl rfl rfl ?_
    exact ⟨0, by rw [partC_nat, if_neg (by have := mul_mono an nn (kk - 1); omega)], Ll0⟩
   refine WC.condN rfl (decide_eq_false c3) ?_
   refine WC.skip (E.blkN (E.thenN (WC.region (W.run 1 rfl ?_))))
   refine W.a (.sub rfl rfl (by omega)) ?_
   refine W.run 1 rfl (W.nil ?_)
   refine E.again (kk - 1, (((2 * q) + ((2 * r) / 1000000)) + (((2 * r) % 1000000) / 1000000)), (((2 * r) % 1000000) % 1000000)) (.cons rfl (.cons rfl (.cons rfl (.cons rfl (.cons rfl (.cons' rfl (int_eq (by omega)) (.nil _))))))) ?_ ?_
   ·exact ⟨by omega, (part_step0 q r _ hX).trans hst.symm, Nat.mod_lt _ (by decide), by omega, Ll0, by have := zl0; omega⟩
   first | omega | (simp only []; omega)
  refine WC.condN rfl (decide_eq_false c1) ?_
  refine WC.exit (E.thenX (E.thenX (E.blkH (E.thenN (WC.sr (W.run 1 rfl ?_))))))
  refine W.r (.idI (isS Tryz.underlying57) Tryz.underlying3 rfl (IntWalk.i64_in _ (by omega))) ?_
  refine W.run 1 rfl ?_
  refine W.r (.idI (isS Tryz.underlying57) Tryz.underlying3 rfl (IntWalk.i64_in _ (by omega))) ?_
  refine W.run 3 rfl (W.nx (WC.ret ?_))
  refine E.retG3 rfl rfl rfl rfl ?_
  exact ⟨_, by rw [partC_nat, if_pos (by rw [show kk = 0 by omega] at hX; simp at hX; omega), show q = an * nn / 1000000 by rw [show kk = 0 by omega] at hX; simp at hX; omega], Ll0⟩
 refine W.a (.dec (.move rfl) (congrArg not ((Bool.eq_false_iff.2 q1_3)))) ?_
 refine W.run 7 rfl (W.nx (WC.condT rfl (WC.sr (W.run 3 rfl (W.nx (WC.ret (E.thenR ?_)))))))
 refine E.retG3 rfl rfl rfl rfl ?_
 exact ⟨0, (by first | rfl | (simp [partC, q1_3]; done) | (simp [partC, q1_3]; omega) | (simp [partC, q1_3]; split <;> first | (exfalso; omega) | (simp; done) | (simp; omega))), L1⟩

theorem rpart_ok (a num : Int) (hn : num ≤ 9223372036854775807) (w : World) : Calls Tryz.prog 115 #[.int .i64 (a), .int .i64 (num), .int .i64 (1000000)] w fun r w' => r = .returned (.tuple #[.int .i64 (partC a num).1, .bool (partC a num).2]) ∧ Le w w' := by
 refine enter Tryz.func115 rfl rfl ?_
 have L0 := Le.refl w
 refine WC.sr (W.run 2 rfl (W.nx (WC.sr (W.run 3 rfl ?_))))
 refine W.cl go142 rfl rfl (rparts_ok a num hn w) ?_
 rintro _ w1_3 ⟨zz, rfl, h1_3⟩
 have L1 := L0.trans h1_3
 refine W.run 7 rfl (W.nx (WC.sr (W.run 4 rfl (W.nx (WC.ret ?_)))))
 refine E.retG2 rfl rfl rfl ?_
 exact ⟨rfl, L1⟩

theorem r33right_ok (p : Pol) (w : World) : Calls Tryz.prog 111 #[.agg (polV p).toArray] w fun r w' => r = .returned (.bool (polOk p)) ∧ Le w w' := by
 refine enter Tryz.func111 rfl rfl ?_
 have L0 := Le.refl w
 refine WC.sr (W.ef rfl rfl rfl ?_)
 refine Ef.boxA rfl ?_
 intro g0_0 w0_0 hg0_0 b0_0 h0_0
 have L1 := L0.trans h0_0
 have b0_0 : Blk w0_0 g0_0 49 (polV p).toArray := b0_0
 refine W.run 1 rfl (W.nx (WC.sr ?_))
 refine W.a (.field0 fa49_0 rfl) ?_
 refine W.r (.loadB (v := .int .i64 (p.b)) na3 rfl b0_0 rfl) ?_
 refine W.cl go140 rfl rfl (r33in_ok p.b 0 1125899906842624 w0_0) ?_
 rintro _ w1_2 ⟨rfl, h1_2⟩
 have L2 := L1.trans h1_2
 by_cases q1_3 : (inB p.b 0 1125899906842624) = true
 ·refine W.a (.dec (.move rfl) (q1_3)) ?_
  refine W.g (Any.rd (.field0 fa49_3 rfl) _) ?_
  have f3 := (b0_0.le h1_2)
  refine W.g (.loadB (v := .int .i64 (p.l)) na3 rfl f3 rfl) ?_
  refine W.efg rfl rfl rfl (rfl) rfl rfl ?_
  refine Ef.call go140 rfl rfl (r33in_ok p.l 0 1125899906842624 w1_2) ?_
  rintro _ w1_6 ⟨rfl, h1_6⟩
  refine ⟨_, rfl, ?_⟩
  have L4 := L2.trans h1_6
  refine W.run 1 rfl ?_
  by_cases q1_8 : (inB p.l 0 1125899906842624) = true
  ·refine W.a (.dec (.move rfl) (q1_8)) ?_
   refine W.g (Any.rd (.field0 fa49_4 rfl) _) ?_
   have f5 := (f3.le h1_6)
   refine W.g (.loadB (v := .int .i64 (p.m)) na3 rfl f5 rfl) ?_
   refine W.g (Any.rd (.field0 fa49_3 rfl) _) ?_
   refine W.g (.loadB (v := .int .i64 (p.l)) na3 rfl f5 rfl) ?_
   refine W.efg rfl rfl rfl (rfl) rfl rfl ?_
   refine Ef.call go140 rfl rfl (r33in_ok p.m p.l 1125899906842624 w1_6) ?_
   rintro _ w1_13 ⟨rfl, h1_13⟩
   refine ⟨_, rfl, ?_⟩
   have L6 := L4.trans h1_13
   refine W.run 1 rfl ?_
   by_cases q1_15 : (inB p.m p.l 1125899906842624) = true
   ·refine W.a (.dec (.move rfl) (q1_15)) ?_
    refine W.g (Any.rd (.field0 fa49_1 rfl) _) ?_
    have f7 := (f5.le h1_13)
    refine W.g (.loadB (v := .int .i64 (p.p)) na3 rfl f7 rfl) ?_
    refine W.efg rfl rfl rfl (rfl) rfl rfl ?_
    refine Ef.call go140 rfl rfl (r33in_ok p.p 0 1000000 w1_13) ?_
    rintro _ w1_18 ⟨rfl, h1_18⟩
    refine ⟨_, rfl, ?_⟩
    have L8 := L6.trans h1_18
    refine W.run 1 rfl ?_
    by_cases q1_20 : (inB p.p 0 1000000) = true
    ·refine W.a (.dec (.move rfl) (q1_20)) ?_
     refine W.g (Any.rd (.field0 fa49_2 rfl) _) ?_
     have f9 := (f7.le h1_18)
     refine W.g (.loadB (v := .int .i64 (p.d)) na3 rfl f9 rfl) ?_
     refine W.efg rfl rfl rfl (rfl) rfl rfl ?_
     refine Ef.call go140 rfl rfl (r33in_ok p.d 0 1048576 w1_18) ?_
     rintro _ w1_23 ⟨rfl, h1_23⟩
     refine ⟨_, rfl, ?_⟩
     have L10 := L8.trans h1_23
     refine W.run 2 rfl (W.nx (WC.ret ?_))
     refine E.retG1 rfl rfl ?_
     exact ⟨rB (by simp only [polOk, inB] at *; rw [Bool.eq_iff_iff]; simp at *; omega), L10⟩
    refine W.a (.dec (.move rfl) ((Bool.eq_false_iff.2 q1_20))) ?_
    refine W.run 5 rfl (W.nx (WC.ret ?_))
    refine E.retG1 rfl rfl ?_
    exact ⟨rB (by simp only [polOk, inB] at *; rw [Bool.eq_iff_iff]; simp at *; omega), L8⟩
   refine W.a (.dec (.move rfl) ((Bool.eq_false_iff.2 q1_15))) ?_
   refine W.run 10 rfl (W.nx (WC.ret ?_))
   refine E.retG1 rfl rfl ?_
   exact ⟨rB (by simp only [polOk, inB] at *; rw [Bool.eq_iff_iff]; simp at *; omega), L6⟩
  refine W.a (.dec (.move rfl) ((Bool.eq_false_iff.2 q1_8))) ?_
  refine W.run 17 rfl (W.nx (WC.ret ?_))
  refine E.retG1 rfl rfl ?_
  exact ⟨rB (by simp only [polOk, inB] at *; rw [Bool.eq_iff_iff]; simp at *; omega), L4⟩
 refine W.a (.dec (.move rfl) ((Bool.eq_false_iff.2 q1_3))) ?_
 refine W.run 22 rfl (W.nx (WC.ret ?_))
 refine E.retG1 rfl rfl ?_
 exact ⟨rB (by simp only [polOk, inB] at *; rw [Bool.eq_iff_iff]; simp at *; omega), L2⟩

theorem r33fee_ok (p : Pol) (a : Int) (hp : PolI p) (w : World) : Calls Tryz.prog 89 #[.agg (polV p).toArray, .int .i64 (a)] w fun r w' => r = .returned (.tuple #[.int .i64 (feeG p a).1, .bool (feeG p a).2]) ∧ Le w w' := by
 have hp2 := hp.2.1
 refine enter Tryz.func89 rfl rfl ?_
 have L0 := Le.refl w
 refine WC.sr (W.ef rfl rfl rfl ?_)
 refine Ef.boxA rfl ?_
 intro g0_0 w0_0 hg0_0 b0_0 h0_0
 have L1 := L0.trans h0_0
 have b0_0 : Blk w0_0 g0_0 49 (polV p).toArray := b0_0
 refine W.run 2 rfl (W.nx (WC.sr (W.run 1 rfl ?_)))
 refine W.a (.field0 fa49_1 rfl) ?_
 refine W.r (.loadB (v := .int .i64 (p.p)) na3 rfl b0_0 rfl) ?_
 refine W.cl go115 rfl rfl (rpart_ok a p.p (by omega) w0_0) ?_
 rintro _ w1_3 ⟨rfl, h1_3⟩
 have L2 := L1.trans h1_3
 refine W.run 5 rfl (W.nx (WC.seq (WC.sr ?_)))
 have f3 := (b0_0.le h1_3)
 refine W.r (.loadAll ag49 (by rfl) rfl f3) ?_
 refine W.cl go111 rfl rfl (r33right_ok p w1_3) ?_
 rintro _ w2_1 ⟨rfl, h2_1⟩
 have L4 := L2.trans h2_1
 refine W.run 1 rfl ?_
 by_cases q2_3 : (polOk p) = true
 ·refine W.a (.dec (.move rfl) (congrArg not (q2_3))) ?_
  refine W.run 3 rfl (W.nx ?_)
  by_cases c0 : ((partC a p.p).2) = true
  ·refine WC.condN rfl (congrArg not (c0)) ?_
   refine WC.sn (WC.sr ?_)
   refine W.a (.field0 fa49_0 rfl) ?_
   have f5 := (f3.le h2_1)
   refine W.r (.loadB (v := .int .i64 (p.b)) na3 rfl f5 rfl) ?_
   refine W.run 1 rfl ?_
   refine W.cl go90 rfl rfl (radd_ok p.b ((partC a p.p).1) w2_1) ?_
   rintro _ w4_3 ⟨rfl, h4_3⟩
   have L6 := L4.trans h4_3
   refine W.run 4 rfl (W.nx (WC.ret ?_))
   refine E.retG2 rfl rfl rfl ?_
   exact ⟨(by first | rfl | (simp [feeG, q2_3, c0]; done) | (simp [feeG, q2_3, c0]; omega) | (simp [feeG, q2_3, c0]; split <;> first | (exfalso; omega) | (simp; done) | (simp; omega))), L6⟩
  refine WC.condY rfl (congrArg not ((Bool.eq_false_iff.2 c0))) ?_
  refine WC.sr (W.run 2 rfl (W.nx (WC.ret (E.thenR ?_))))
  refine E.retG2 rfl rfl rfl ?_
  exact ⟨(by first | rfl | (simp [feeG, q2_3, c0]; done) | (simp [feeG, q2_3, c0]; omega) | (simp [feeG, q2_3, c0]; split <;> first | (exfalso; omega) | (simp; done) | (simp; omega))), L4⟩
 refine W.a (.dec (.move rfl) (congrArg not ((Bool.eq_false_iff.2 q2_3)))) ?_
 refine W.run 3 rfl (W.nx (WC.condT rfl (WC.sr (W.run 2 rfl (W.nx (WC.ret (E.thenR ?_)))))))
 refine E.retG2 rfl rfl rfl ?_
 exact ⟨(by first | rfl | (simp [feeG, q2_3]; done) | (simp [feeG, q2_3]; omega) | (simp [feeG, q2_3]; split <;> first | (exfalso; omega) | (simp; done) | (simp; omega))), L4⟩

theorem r36edge_ok (e : Gsp.Edge) (w : World) : Calls Tryz.prog 80 #[.agg (edgeV e).toArray] w fun r w' => r = .returned (.bool (edgeOk e)) ∧ Le w w' := by
 refine enter Tryz.func80 rfl rfl ?_
 have L0 := Le.refl w
 refine WC.sr (W.ef rfl rfl rfl ?_)
 refine Ef.boxA rfl ?_
 intro g0_0 w0_0 hg0_0 b0_0 h0_0
 have L1 := L0.trans h0_0
 have b0_0 : Blk w0_0 g0_0 51 (edgeV e).toArray := b0_0
 refine W.run 1 rfl (W.nx (WC.sr ?_))
 refine W.a (.field0 fa51_4 rfl) ?_
 refine W.r (.bpart (polV e.pol) ag49 rfl (by decide) rfl b0_0 rfl) ?_
 refine W.cl go111 rfl rfl (r33right_ok e.pol w0_0) ?_
 rintro _ w1_2 ⟨rfl, h1_2⟩
 have L2 := L1.trans h1_2
 refine W.run 1 rfl (W.nx (WC.sr ?_))
 refine W.a (.field0 fa51_0 rfl) ?_
 have f3 := (b0_0.le h1_2)
 refine W.r (.loadB (v := .int .i64 (e.f)) na3 rfl f3 rfl) ?_
 refine W.cl go88 rfl rfl (r36in_ok e.f 0 11 w1_2) ?_
 rintro _ w2_2 ⟨rfl, h2_2⟩
 have L4 := L2.trans h2_2
 by_cases q2_3 : (inB e.f 0 11) = true
 ·refine W.a (.dec (.move rfl) (q2_3)) ?_
  refine W.g (Any.rd (.field0 fa51_1 rfl) _) ?_
  have f5 := (f3.le h2_2)
  refine W.g (.loadB (v := .int .i64 (e.t)) na3 rfl f5 rfl) ?_
  refine W.efg rfl rfl rfl (rfl) rfl rfl ?_
  refine Ef.call go88 rfl rfl (r36in_ok e.t 0 11 w2_2) ?_
  rintro _ w2_6 ⟨rfl, h2_6⟩
  refine ⟨_, rfl, ?_⟩
  have L6 := L4.trans h2_6
  refine W.run 1 rfl ?_
  by_cases q2_8 : (inB e.t 0 11) = true
  ·refine W.a (.dec (.move rfl) (q2_8)) ?_
   refine W.g (Any.rd (.field0 fa51_0 rfl) _) ?_
   have f7 := (f5.le h2_6)
   refine W.g (.loadB (v := .int .i64 (e.f)) na3 rfl f7 rfl) ?_
   refine W.g (Any.rd (.field0 fa51_1 rfl) _) ?_
   refine W.g (.loadB (v := .int .i64 (e.t)) na3 rfl f7 rfl) ?_
   refine W.run 2 rfl ?_
   by_cases q2_15 : e.f ≠ e.t
   ·refine W.dt q2_15 rfl rfl ?_
    refine W.g (Any.rd (.field0 fa51_2 rfl) _) ?_
    refine W.g (.loadB (v := .int .i64 (e.c)) na3 rfl f7 rfl) ?_
    refine W.efg rfl rfl rfl (rfl) rfl rfl ?_
    refine Ef.call go88 rfl rfl (r36in_ok e.c 0 39 w2_6) ?_
    rintro _ w2_18 ⟨rfl, h2_18⟩
    refine ⟨_, rfl, ?_⟩
    have L8 := L6.trans h2_18
    refine W.run 1 rfl ?_
    by_cases q2_20 : (inB e.c 0 39) = true
    ·refine W.a (.dec (.move rfl) (q2_20)) ?_
     refine W.g (Any.rd (.field0 fa51_3 rfl) _) ?_
     have f9 := (f7.le h2_18)
     refine W.g (.loadB (v := .int .i64 (e.r)) na3 rfl f9 rfl) ?_
     refine W.efg rfl rfl rfl (rfl) rfl rfl ?_
     refine Ef.call go88 rfl rfl (r36in_ok e.r 1 1125899906842624 w2_18) ?_
     rintro _ w2_23 ⟨rfl, h2_23⟩
     refine ⟨_, rfl, ?_⟩
     have L10 := L8.trans h2_23
     refine W.run 1 rfl ?_
     by_cases q2_25 : (inB e.r 1 1125899906842624) = true
     ·refine W.a (.dec (.move rfl) (q2_25)) ?_
      refine W.run 3 rfl (W.nx (WC.ret ?_))
      refine E.retG1 rfl rfl ?_
      exact ⟨rB (by simp [edgeOk, q2_3, q2_8, q2_15, q2_20, q2_25]), L10⟩
     refine W.a (.dec (.move rfl) ((Bool.eq_false_iff.2 q2_25))) ?_
     refine W.run 3 rfl (W.nx (WC.ret ?_))
     refine E.retG1 rfl rfl ?_
     exact ⟨rB (by simp [edgeOk, q2_3, q2_8, q2_15, q2_20, q2_25]), L10⟩
    refine W.a (.dec (.move rfl) ((Bool.eq_false_iff.2 q2_20))) ?_
    refine W.run 8 rfl (W.nx (WC.ret ?_))
    refine E.retG1 rfl rfl ?_
    exact ⟨rB (by simp [edgeOk, q2_3, q2_8, q2_15, q2_20]), L8⟩
   refine W.df q2_15 rfl rfl (W.run 13 rfl (W.nx (WC.ret ?_)))
   refine E.retG1 rfl rfl ?_
   exact ⟨rB (by simp [edgeOk, q2_3, q2_8, q2_15]), L6⟩
  refine W.a (.dec (.move rfl) ((Bool.eq_false_iff.2 q2_8))) ?_
  refine W.run 20 rfl (W.nx (WC.ret ?_))
  refine E.retG1 rfl rfl ?_
  exact ⟨rB (by simp [edgeOk, q2_3, q2_8]), L6⟩
 refine W.a (.dec (.move rfl) ((Bool.eq_false_iff.2 q2_3))) ?_
 refine W.run 25 rfl (W.nx (WC.ret ?_))
 refine E.retG1 rfl rfl ?_
 exact ⟨rB (by simp [edgeOk, q2_3]), L4⟩





theorem same_ok {A B : Option Addr} {n c m d : Nat} {xs ys : List (Gsp.Edge)} (w : World) (hV : Vec w edgeV 9 A n xs) (hU : Vec w edgeV 9 B m ys) (hn : n ≤ 1000000) : Calls Tryz.prog 16 #[.slice A n c, .slice B m d] w fun r w' => r = .returned (.bool (decide (xs = ys))) ∧ Le w w' := by
 have hl := hV.1
 have hm := hU.1
 refine enter Tryz.func16 rfl rfl ?_
 have L0 := Le.refl w
 refine WC.sr (W.run 1 rfl (W.nx (WC.seq (WC.sr (W.run 1 rfl ?_)))))
 refine W.r (.len Tryz.underlying22 rfl) ?_
 refine W.run 1 rfl ?_
 refine W.r (.len Tryz.underlying22 rfl) ?_
 refine W.run 1 rfl (W.nx ?_)
 by_cases c0 : ((n : Nat) : Int) ≠ ((m : Nat) : Int)
 ·refine WC.condY rfl (decide_eq_true c0) ?_
  refine WC.sr (W.run 1 rfl (W.nx (WC.ret (E.thenR ?_))))
  refine E.retG1 rfl rfl ?_
  exact ⟨rB (decide_eq_false (fun h => by subst h; first | omega | exact absurd rfl (by assumption))).symm, L0⟩
 refine WC.condN rfl (decide_eq_false c0) ?_
 refine WC.sn (WC.seq (WC.sr (W.run 1 rfl (W.nx (WC.block ?_)))))
 refine WC.loop (ι := Nat) (fun k => [(0, .slice A n c), (1, .slice B m d), (5, .int .i64 (((k : Nat) : Int)))]) (fun k wl0 => (k ≤ n) ∧ (∀ j, j < k → xs.getD j noEdge = ys.getD j noEdge) ∧ Le w wl0 ∧ w.heap.size ≤ wl0.heap.size) (fun k => n - k) 0 ?_ ?_ ?_
 ·exact .cons rfl (.cons rfl (.cons rfl (.nil _)))
 ·exact ⟨Nat.zero_le _, fun j hj => absurd hj (Nat.not_lt_zero _), L0, Nat.le_refl _⟩
 rintro k wl0 ⟨hk, hz, Ll0, zl0⟩
 refine WC.seq (WC.sr (W.run 2 rfl ?_))
 refine W.r (.len Tryz.underlying22 rfl) ?_
 refine W.run 1 rfl (W.nx ?_)
 by_cases c1 : ((k : Nat) : Int) < ((n : Nat) : Int)
 ·refine WC.condY rfl (decide_eq_true c1) ?_
  refine WC.sn (WC.seq (WC.block (WC.seq ?_)))
  refine WC.draw [0, 1, 2, 3, 4, 5, 6, 7, 8] mixed (by kernel_rfl) ?_
  intro w6 d6
  have L1 := Ll0.trans d6
  refine G.run 2 rfl ?_
  refine G.a rfl (.idxS (k) Tryz.underlying22 sz51 rfl rfl (hV.isSome edgeV_row (by omega)) (rfl) (by omega)) ?_
  refine G.r rfl (.vload ag51 rfl (hV.le L1) edgeV_row (getS xs noEdge (by omega))) ?_
  refine G.run 2 rfl ?_
  refine G.a rfl (.idxS (k) Tryz.underlying22 sz51 rfl rfl (hU.isSome edgeV_row (by omega)) (rfl) (by omega)) ?_
  refine G.r rfl (.vload ag51 rfl (hU.le L1) edgeV_row (getS ys noEdge (by omega))) ?_
  refine G.a rfl (.neA eg51 rfl rfl (eqv_edge (d := 9997) _ _)) ?_
  refine G.nil (E.thenN ?_)
  by_cases c2 : (xs.getD k noEdge) = (ys.getD k noEdge)
  ·refine WC.condN rfl (congrArg not (decide_eq_true c2)) ?_
   refine WC.skip (E.blkN (E.thenN (WC.region (W.run 1 rfl ?_))))
   refine W.a (.add rfl rfl (by omega)) ?_
   refine W.run 1 rfl (W.nil ?_)
   refine E.again (k + 1) (.cons rfl (.cons rfl (.cons rfl (.nil _)))) ?_ ?_
   ·exact ⟨by omega, fun j hj => by rcases Nat.lt_or_ge j k with h | h; exact hz j h; rw [show j = k by omega]; first | exact Decidable.not_not.1 c2 | exact c2, L1, by have := zl0; have := d6.size; omega⟩
   first | omega | (simp only []; omega)
  refine WC.condY rfl (congrArg not (decide_eq_false c2)) ?_
  refine WC.sr (W.run 1 rfl (W.nx (WC.ret (E.blkR (E.thenR (E.thenR (E.blkR (E.thenR ?_))))))))
  refine E.retG1 rfl rfl ?_
  exact ⟨rB (decide_eq_false (fun h => by subst h; first | omega | exact absurd rfl (by assumption))).symm, L1⟩
 refine WC.condN rfl (decide_eq_false c1) ?_
 refine WC.exit (E.thenX (E.thenX (E.blkH (E.thenN (WC.sr (W.run 1 rfl (W.nx (WC.ret ?_))))))))
 refine E.retG1 rfl rfl ?_
 exact ⟨rB (decide_eq_true (ext_getD (by omega) (fun j hj => hz j (by omega)))).symm, Ll0⟩
end Go.Proofs.YtmkdeemjkcigkaaGreatDoor

namespace Go.Proofs.YtmkdeemjkcigkaaGreatDoor
open Go Go.Sx Go.Num Go.Osp Go.Gsp
set_option maxRecDepth 20000
theorem rep_at0 {k : Nat} (l : List Int) (v : Int) (i : Nat) (h : i = k) : (List.replicate k 0 ++ v :: l)[i]? = some v := by
  subst h; rw [List.getElem?_append_right (by simp)]; simp
theorem rep_at1 {f : Int × Int → Int} {j : Nat} (l : List (Int × Int)) (v : Int) (h : 0 < j) (hl : 0 < l.length) : (List.replicate (j - 1) 0 ++ v :: l.map f)[j]? = some (f (l.getD 0 (0, 0))) := by
  rw [List.getElem?_append_right (by simp), List.length_replicate, show j - (j - 1) = 1 by omega]
  cases l with
  | nil => simp at hl
  | cons p l => rfl
theorem rep_set2 (l : List Int) (v u : Int) (k : Nat) : (List.replicate k 0 ++ v :: l).set k u = List.replicate k 0 ++ u :: l := by
  rw [List.set_append_right _ _ (by simp)]; simp
theorem inB_min (a l m r : Int) : inB a l (min m r) = true ↔ inB a l m = true ∧ ¬ r < a := by
  simp only [inB, decide_eq_true_eq]
  constructor
  · intro h; omega
  · intro h; omega
theorem costF_nx {a x : Int} {xs : List Gsp.Edge} {j : Nat} {nx : Option (Int × Int)} {l : List (Int × Int)} (h : costF a x (xs.drop j) = .ok (nx, l)) (hj : j < xs.length) : nx = nextC (xs.getD j noEdge) (l.getD 0 (0, 0)).1 (l.getD 0 (0, 0)).2 ∧ (l.getD 0 (0, 0)).2 ≤ 1048576 := by
  obtain ⟨h1, h2, h3, h4⟩ := costF_at (xs.drop j) nx l h
  rw [if_neg (by rw [List.length_drop]; omega), getD_drop', Nat.add_zero] at h4
  have := (h1 0 (by rw [List.length_drop]; omega)).2
  exact ⟨h4, by omega⟩
theorem ahead_ok (a b : Gsp.Edge) (w : World) : Calls Tryz.prog 81 #[.agg (edgeV a).toArray, .agg (edgeV b).toArray] w fun r w' => r = .returned (.bool (decide (ordE a b < 0))) ∧ Le w w' := by
 refine enter Tryz.func81 rfl rfl ?_
 have L0 := Le.refl w
 refine WC.sr (W.ef rfl rfl rfl ?_)
 refine Ef.boxA rfl ?_
 intro g0_0 w0_0 hg0_0 b0_0 h0_0
 have L1 := L0.trans h0_0
 have b0_0 : Blk w0_0 g0_0 51 (edgeV a).toArray := b0_0
 refine W.ef rfl rfl rfl ?_
 refine Ef.boxA rfl ?_
 intro g0_1 w0_1 hg0_1 b0_1 h0_1
 have L2 := L1.trans h0_1
 have b0_1 : Blk w0_1 g0_1 51 (edgeV b).toArray := b0_1
 refine W.run 1 rfl (W.nx (WC.sr ?_))
 refine W.a (.field0 fa51_2 rfl) ?_
 have f3 := (b0_0.le h0_1)
 refine W.r (.loadB (v := .int .i64 (a.c)) na3 rfl f3 rfl) ?_
 refine W.a (.field0 fa51_2 rfl) ?_
 refine W.r (.loadB (v := .int .i64 (b.c)) na3 rfl b0_1 rfl) ?_
 refine W.run 1 rfl ?_
 by_cases q1_5 : a.c < b.c
 ·refine W.dt q1_5 rfl rfl (W.run 6 rfl ?_)
  refine W.skipu rfl rfl rfl rfl rfl ?_
  refine W.skipu rfl rfl rfl rfl rfl ?_
  refine W.skipu rfl rfl rfl rfl rfl ?_
  refine W.skipu rfl rfl rfl rfl rfl ?_
  refine W.skipu rfl rfl rfl rfl rfl ?_
  refine W.run 3 rfl (W.nx (WC.ret ?_))
  refine E.retG1 rfl rfl ?_
  exact ⟨rB (by unfold ordE cmpI; rw [Bool.eq_iff_iff]; simp only [decide_eq_true_eq]; (split <;> (repeat' split) <;> simp_all <;> omega)), L2⟩
 refine W.df q1_5 rfl rfl ?_
 refine W.g (Any.rd (.field0 fa51_2 rfl) _) ?_
 refine W.g (.loadB (v := .int .i64 (a.c)) na3 rfl f3 rfl) ?_
 refine W.g (Any.rd (.field0 fa51_2 rfl) _) ?_
 refine W.g (.loadB (v := .int .i64 (b.c)) na3 rfl b0_1 rfl) ?_
 refine W.run 1 rfl ?_
 by_cases q1_11 : a.c = b.c
 ·refine W.g (Any.rd (.dec (.move rfl) (decide_eq_true q1_11)) _) ?_
  refine W.g (Any.rd (.field0 fa51_0 rfl) _) ?_
  refine W.g (.loadB (v := .int .i64 (a.f)) na3 rfl f3 rfl) ?_
  refine W.g (Any.rd (.field0 fa51_0 rfl) _) ?_
  refine W.g (.loadB (v := .int .i64 (b.f)) na3 rfl b0_1 rfl) ?_
  refine W.run 1 rfl ?_
  refine W.g (Any.rd (.pickT rfl rfl rfl) _) ?_
  refine W.run 2 rfl (W.nx (WC.ret ?_))
  refine E.retG1 rfl rfl ?_
  exact ⟨rB (by unfold ordE cmpI; rw [Bool.eq_iff_iff]; simp only [decide_eq_true_eq]; (split <;> (repeat' split) <;> simp_all <;> omega)), L2⟩
 refine W.g (Any.rd (.dec (.move rfl) (decide_eq_false q1_11)) _) ?_
 refine W.run 5 rfl ?_
 refine W.g (Any.rd (.pickF rfl rfl rfl) _) ?_
 refine W.run 2 rfl (W.nx (WC.ret ?_))
 refine E.retG1 rfl rfl ?_
 exact ⟨rB (by unfold ordE cmpI; rw [Bool.eq_iff_iff]; simp only [decide_eq_true_eq]; (split <;> (repeat' split) <;> simp_all <;> omega)), L2⟩

theorem r36way_ok {A : Option Addr} {n c : Nat} {xs : List Gsp.Edge} (w : World) (hV : Vec w edgeV 9 A n xs) (hn : n ≤ 1000000) : Calls Tryz.prog 84 #[.slice A n c] w fun r w' => r = .returned (.bool (wayG xs)) ∧ Le w w' := by
 have hl := hV.1
 refine enter Tryz.func84 rfl rfl ?_
 have L0 := Le.refl w
 refine WC.sr (W.run 1 rfl (W.nx (WC.seq (WC.sr (W.run 1 rfl ?_)))))
 refine W.r (.len Tryz.underlying22 rfl) ?_
 refine W.run 1 rfl ?_
 by_cases q1_3 : ((n : Nat) : Int) < 1
 ·refine W.dt q1_3 rfl rfl (W.run 4 rfl (W.nx (WC.condT rfl (WC.sr (W.run 1 rfl (W.nx (WC.ret (E.thenR ?_))))))))
  refine E.retG1 rfl rfl ?_
  exact ⟨rB (decide_eq_false (fun hr => by have := hr.1; omega)).symm, L0⟩
 refine W.df q1_3 rfl rfl (W.run 1 rfl ?_)
 refine W.g (.len Tryz.underlying22 rfl) ?_
 refine W.run 2 rfl (W.nx ?_)
 by_cases c0 : 8 < ((n : Nat) : Int)
 ·refine WC.condY rfl (decide_eq_true c0) ?_
  refine WC.sr (W.run 1 rfl (W.nx (WC.ret (E.thenR ?_))))
  refine E.retG1 rfl rfl ?_
  exact ⟨rB (decide_eq_false (fun hr => by have := hr.1; omega)).symm, L0⟩
 refine WC.condN rfl (decide_eq_false c0) ?_
 refine WC.sn (WC.seq (WC.sr (W.run 1 rfl (W.nx (WC.block ?_)))))
 refine WC.loop (ι := Nat) (fun k => [(0, .slice A n c), (3, .int .i64 (((k : Nat) : Int)))]) (fun k wl0 => (k ≤ n) ∧ (∀ j, j < k → WayAt xs j) ∧ Le w wl0 ∧ w.heap.size ≤ wl0.heap.size) (fun k => n - k) 0 ?_ ?_ ?_
 ·exact .cons rfl (.cons rfl (.nil _))
 ·exact ⟨Nat.zero_le _, fun j hj => absurd hj (Nat.not_lt_zero _), L0, Nat.le_refl _⟩
 rintro k wl0 ⟨hk, hz, Ll0, zl0⟩
 refine WC.seq (WC.sr (W.run 2 rfl ?_))
 refine W.r (.len Tryz.underlying22 rfl) ?_
 refine W.run 1 rfl (W.nx ?_)
 by_cases c1 : ((k : Nat) : Int) < ((n : Nat) : Int)
 ·refine WC.condY rfl (decide_eq_true c1) ?_
  refine WC.sn (WC.seq (WC.block (WC.seq (WC.seq ?_))))
  refine WC.draw [0, 1, 2, 3, 4, 5, 6, 7, 8, 9, 10, 11, 12, 13, 14, 15, 16, 17, 18, 19, 20, 21, 22, 23] mixed (by kernel_rfl) ?_
  intro w6 d6
  have L1 := Ll0.trans d6
  refine G.run 2 rfl ?_
  refine G.a rfl (.idxS (k) Tryz.underlying22 sz51 rfl rfl (hV.isSome edgeV_row (by omega)) (rfl) (by omega)) ?_
  refine G.r rfl (.vload ag51 rfl (hV.le L1) edgeV_row (getS xs noEdge (by omega))) ?_
  refine G.ef rfl rfl rfl rfl rfl ?_
  refine Ef.call go80 rfl rfl (r36edge_ok (xs.getD k noEdge) w6) ?_
  rintro _ w6_4 ⟨rfl, h6_4⟩
  refine ⟨_, rfl, ?_⟩
  refine ⟨fun _ => h6_4, ?_⟩
  have L2 := L1.trans h6_4
  refine G.run 1 rfl ?_
  by_cases q6_6 : (edgeOk (xs.getD k noEdge)) = true
  ·refine G.a rfl (.dec (.move rfl) (congrArg not (q6_6))) ?_
   refine G.run 2 rfl ?_
   by_cases q6_9 : 0 < ((k : Nat) : Int)
   ·refine G.ag rfl (.dec (.move rfl) (decide_eq_true q6_9)) ?_
    refine G.run 2 rfl ?_
    refine G.ag rfl (.idxS (k) Tryz.underlying22 sz51 rfl rfl (hV.isSome edgeV_row (by omega)) (rfl) (by omega)) ?_
    refine G.ag rfl (.vfield fa51_0 (hV.isSome edgeV_row (by omega)) rfl) ?_
    refine G.rg rfl (.vcell (j := k) (o := 0) (v := .int .i64 ((xs.getD k noEdge).f)) na3 rfl (hV.le L2) edgeV_row (getS xs noEdge (by omega)) rfl) ?_
    refine G.run 2 rfl ?_
    refine G.ag rfl (.sub rfl rfl (by omega)) ?_
    refine G.ag rfl (.idxS ((k - 1)) Tryz.underlying22 sz51 rfl rfl (hV.isSome edgeV_row (by omega)) (by omega) (by omega)) ?_
    refine G.ag rfl (.vfield fa51_1 (hV.isSome edgeV_row (by omega)) rfl) ?_
    refine G.rg rfl (.vcell (j := (k - 1)) (o := 1) (v := .int .i64 ((xs.getD (k - 1) noEdge).t)) na3 rfl (hV.le L2) edgeV_row (getS xs noEdge (by omega)) rfl) ?_
    refine G.run 1 rfl ?_
    refine G.ag rfl (.pickT rfl rfl rfl) ?_
    refine G.run 1 rfl (G.nil (E.thenN ?_))
    by_cases c2 : ((xs.getD k noEdge).f) ≠ ((xs.getD (k - 1) noEdge).t)
    ·refine WC.condY rfl (decide_eq_true c2) ?_
     refine WC.sr (W.run 1 rfl (W.nx (WC.ret (E.thenR (E.blkR (E.thenR (E.thenR (E.blkR (E.thenR ?_)))))))))
     refine E.retG1 rfl rfl ?_
     exact ⟨rB (decide_eq_false (fun hr => by have hr := hr.2 k (by omega); first | exact absurd hr.1 (by assumption) | exact hr.2.2 i (by omega) (by assumption) | (have := hr.2.1; omega))).symm, L2⟩
    refine WC.condN rfl (decide_eq_false c2) ?_
    refine WC.sn (WC.sr (W.run 1 rfl (W.nx (WC.block ?_))))
    refine WC.loop (ι := Nat) (fun i => [(0, .slice A n c), (3, .int .i64 (((k : Nat) : Int))), (4, .int .i64 (((i : Nat) : Int)))]) (fun i wl1 => (i ≤ k + 1) ∧ (∀ q, q < i → (xs.getD q noEdge).f ≠ (xs.getD k noEdge).t) ∧ Le w wl1 ∧ w6_4.heap.size ≤ wl1.heap.size) (fun i => k + 1 - i) 0 ?_ ?_ ?_
    ·exact .cons rfl (.cons rfl (.cons rfl (.nil _)))
    ·exact ⟨Nat.zero_le _, fun j hj => absurd hj (Nat.not_lt_zero _), L2, Nat.le_refl _⟩
    rintro i wl1 ⟨hi, hy, Ll1, zl1⟩
    refine WC.seq (WC.sr (W.run 3 rfl (W.nx ?_)))
    by_cases c3 : ((i : Nat) : Int) ≤ ((k : Nat) : Int)
    ·refine WC.condY rfl (decide_eq_true c3) ?_
     refine WC.sn (WC.seq (WC.block (WC.seq ?_)))
     refine WC.draw [0, 1, 2, 3, 4, 5, 6, 7, 8, 9, 10] mixed (by kernel_rfl) ?_
     intro w11 d11
     have L3 := Ll1.trans d11
     refine G.run 2 rfl ?_
     refine G.a rfl (.idxS (i) Tryz.underlying22 sz51 rfl rfl (hV.isSome edgeV_row (by omega)) (rfl) (by omega)) ?_
     refine G.a rfl (.vfield fa51_0 (hV.isSome edgeV_row (by omega)) rfl) ?_
     refine G.r rfl (.vcell (j := i) (o := 0) (v := .int .i64 ((xs.getD i noEdge).f)) na3 rfl (hV.le L3) edgeV_row (getS xs noEdge (by omega)) rfl) ?_
     refine G.run 2 rfl ?_
     refine G.a rfl (.idxS (k) Tryz.underlying22 sz51 rfl rfl (hV.isSome edgeV_row (by omega)) (rfl) (by omega)) ?_
     refine G.a rfl (.vfield fa51_1 (hV.isSome edgeV_row (by omega)) rfl) ?_
     refine G.r rfl (.vcell (j := k) (o := 1) (v := .int .i64 ((xs.getD k noEdge).t)) na3 rfl (hV.le L3) edgeV_row (getS xs noEdge (by omega)) rfl) ?_
     refine G.run 1 rfl (G.nil (E.thenN ?_))
     by_cases c4 : ((xs.getD i noEdge).f) = ((xs.getD k noEdge).t)
     ·refine WC.condY rfl (decide_eq_true c4) ?_
      refine WC.sr (W.run 1 rfl (W.nx (WC.ret (E.blkR (E.thenR (E.thenR (E.blkR (E.blkR (E.thenR (E.thenR (E.blkR (E.thenR ?_))))))))))))
      refine E.retG1 rfl rfl ?_
      exact ⟨rB (decide_eq_false (fun hr => by have hr := hr.2 k (by omega); first | exact absurd hr.1 (by assumption) | exact hr.2.2 i (by omega) (by assumption) | (have := hr.2.1; omega))).symm, L3⟩
     refine WC.condN rfl (decide_eq_false c4) ?_
     refine WC.skip (E.blkN (E.thenN (WC.region (W.run 1 rfl ?_))))
     refine W.a (.add rfl rfl (by omega)) ?_
     refine W.run 1 rfl (W.nil ?_)
     refine E.again (i + 1) (.cons rfl (.cons rfl (.cons rfl (.nil _)))) ?_ ?_
     ·exact ⟨by omega, fun j hj => by rcases Nat.lt_or_ge j i with h | h; exact hy j h; rw [show j = i by omega]; exact c4, L3, by have := zl1; have := d11.size; omega⟩
     first | omega | (simp only []; omega)
    refine WC.condN rfl (decide_eq_false c3) ?_
    refine WC.exit (E.thenX (E.thenX (E.blkH (E.blkN (E.thenN (WC.region (W.run 1 rfl ?_)))))))
    refine W.a (.add rfl rfl (by omega)) ?_
    refine W.run 1 rfl (W.nil ?_)
    refine E.again (k + 1) (.cons rfl (.cons rfl (.nil _))) ?_ ?_
    ·exact ⟨by omega, fun j hj => by rcases Nat.lt_or_ge j k with h | h; exact hz j h; rw [show j = k by omega]; exact ⟨by assumption, fun h0 => by omega, fun q hq => hy q (by omega)⟩, Ll1, by have := zl0; have := zl1; have := d6.size; have := h6_4.size; omega⟩
    first | omega | (simp only []; omega)
   refine G.ag rfl (.dec (.move rfl) (decide_eq_false q6_9)) ?_
   refine G.run 12 rfl ?_
   refine G.ag rfl (.pickF rfl rfl rfl) ?_
   refine G.run 1 rfl (G.nil (E.thenN (WC.condF rfl (WC.sn (WC.sr (W.run 1 rfl (W.nx (WC.block ?_))))))))
   refine WC.loop (ι := Nat) (fun i => [(0, .slice A n c), (3, .int .i64 (((k : Nat) : Int))), (4, .int .i64 (((i : Nat) : Int)))]) (fun i wl1 => (i ≤ k + 1) ∧ (∀ q, q < i → (xs.getD q noEdge).f ≠ (xs.getD k noEdge).t) ∧ Le w wl1 ∧ w6_4.heap.size ≤ wl1.heap.size) (fun i => k + 1 - i) 0 ?_ ?_ ?_
   ·exact .cons rfl (.cons rfl (.cons rfl (.nil _)))
   ·exact ⟨Nat.zero_le _, fun j hj => absurd hj (Nat.not_lt_zero _), L2, Nat.le_refl _⟩
   rintro i wl1 ⟨hi, hy, Ll1, zl1⟩
   refine WC.seq (WC.sr (W.run 3 rfl (W.nx ?_)))
   by_cases c3 : ((i : Nat) : Int) ≤ ((k : Nat) : Int)
   ·refine WC.condY rfl (decide_eq_true c3) ?_
    refine WC.sn (WC.seq (WC.block (WC.seq ?_)))
    refine WC.draw [0, 1, 2, 3, 4, 5, 6, 7, 8, 9, 10] mixed (by kernel_rfl) ?_
    intro w11 d11
    have L4 := Ll1.trans d11
    refine G.run 2 rfl ?_
    refine G.a rfl (.idxS (i) Tryz.underlying22 sz51 rfl rfl (hV.isSome edgeV_row (by omega)) (rfl) (by omega)) ?_
    refine G.a rfl (.vfield fa51_0 (hV.isSome edgeV_row (by omega)) rfl) ?_
    refine G.r rfl (.vcell (j := i) (o := 0) (v := .int .i64 ((xs.getD i noEdge).f)) na3 rfl (hV.le L4) edgeV_row (getS xs noEdge (by omega)) rfl) ?_
    refine G.run 2 rfl ?_
    refine G.a rfl (.idxS (k) Tryz.underlying22 sz51 rfl rfl (hV.isSome edgeV_row (by omega)) (rfl) (by omega)) ?_
    refine G.a rfl (.vfield fa51_1 (hV.isSome edgeV_row (by omega)) rfl) ?_
    refine G.r rfl (.vcell (j := k) (o := 1) (v := .int .i64 ((xs.getD k noEdge).t)) na3 rfl (hV.le L4) edgeV_row (getS xs noEdge (by omega)) rfl) ?_
    refine G.run 1 rfl (G.nil (E.thenN ?_))
    by_cases c4 : ((xs.getD i noEdge).f) = ((xs.getD k noEdge).t)
    ·refine WC.condY rfl (decide_eq_true c4) ?_
     refine WC.sr (W.run 1 rfl (W.nx (WC.ret (E.blkR (E.thenR (E.thenR (E.blkR (E.blkR (E.thenR (E.thenR (E.blkR (E.thenR ?_))))))))))))
     refine E.retG1 rfl rfl ?_
     exact ⟨rB (decide_eq_false (fun hr => by have hr := hr.2 k (by omega); first | exact absurd hr.1 (by assumption) | exact hr.2.2 i (by omega) (by assumption) | (have := hr.2.1; omega))).symm, L4⟩
    refine WC.condN rfl (decide_eq_false c4) ?_
    refine WC.skip (E.blkN (E.thenN (WC.region (W.run 1 rfl ?_))))
    refine W.a (.add rfl rfl (by omega)) ?_
    refine W.run 1 rfl (W.nil ?_)
    refine E.again (i + 1) (.cons rfl (.cons rfl (.cons rfl (.nil _)))) ?_ ?_
    ·exact ⟨by omega, fun j hj => by rcases Nat.lt_or_ge j i with h | h; exact hy j h; rw [show j = i by omega]; exact c4, L4, by have := zl1; have := d11.size; omega⟩
    first | omega | (simp only []; omega)
   refine WC.condN rfl (decide_eq_false c3) ?_
   refine WC.exit (E.thenX (E.thenX (E.blkH (E.blkN (E.thenN (WC.region (W.run 1 rfl ?_)))))))
   refine W.a (.add rfl rfl (by omega)) ?_
   refine W.run 1 rfl (W.nil ?_)
   refine E.again (k + 1) (.cons rfl (.cons rfl (.nil _))) ?_ ?_
   ·exact ⟨by omega, fun j hj => by rcases Nat.lt_or_ge j k with h | h; exact hz j h; rw [show j = k by omega]; exact ⟨by assumption, fun h0 => by omega, fun q hq => hy q (by omega)⟩, Ll1, by have := zl0; have := zl1; have := d6.size; have := h6_4.size; omega⟩
   first | omega | (simp only []; omega)
  refine G.a rfl (.dec (.move rfl) (congrArg not ((Bool.eq_false_iff.2 q6_6)))) ?_
  refine G.run 3 rfl ?_
  refine G.skipu rfl rfl rfl rfl rfl rfl ?_
  refine G.skipu rfl rfl rfl rfl rfl rfl ?_
  refine G.skipu rfl rfl rfl rfl rfl rfl ?_
  refine G.skipu rfl rfl rfl rfl rfl rfl ?_
  refine G.skipu rfl rfl rfl rfl rfl rfl ?_
  refine G.skipu rfl rfl rfl rfl rfl rfl ?_
  refine G.skipu rfl rfl rfl rfl rfl rfl ?_
  refine G.skipu rfl rfl rfl rfl rfl rfl ?_
  refine G.skipu rfl rfl rfl rfl rfl rfl ?_
  refine G.skipu rfl rfl rfl rfl rfl rfl ?_
  refine G.skipu rfl rfl rfl rfl rfl rfl ?_
  refine G.skipu rfl rfl rfl rfl rfl rfl ?_
  refine G.run 2 rfl (G.nil (E.thenN (WC.condT rfl (WC.sr (W.run 1 rfl (W.nx (WC.ret (E.thenR (E.blkR (E.thenR (E.thenR (E.blkR (E.thenR ?_)))))))))))))
  refine E.retG1 rfl rfl ?_
  exact ⟨rB (decide_eq_false (fun hr => by have hr := hr.2 k (by omega); first | exact absurd hr.1 (by assumption) | exact hr.2.2 i (by omega) (by assumption) | (have := hr.2.1; omega))).symm, L2⟩
 refine WC.condN rfl (decide_eq_false c1) ?_
 refine WC.exit (E.thenX (E.thenX (E.blkH (E.thenN (WC.sr (W.run 1 rfl (W.nx (WC.ret ?_))))))))
 refine E.retG1 rfl rfl ?_
 exact ⟨rB (decide_eq_true ⟨by omega, fun j hj => hz j (by omega)⟩).symm, Ll0⟩

set_option maxHeartbeats 1000000 in
theorem rcost_ok (a x : Int) {A : Option Addr} {n c : Nat} {xs : List Gsp.Edge} (w : World) (hV : Vec w edgeV 9 A n xs) (hn : n ≤ 1000000) : Calls Tryz.prog 47 #[.slice A n c, .int .i64 (a), .int .i64 (x)] w fun r w' => ∃ A1 c1 A2 c2, r = .returned (.tuple #[.slice A1 (costG xs a x).1.length c1, .slice A2 (costG xs a x).2.1.length c2, .int .i64 (costG xs a x).2.2]) ∧ OVec w' w.heap.size 3 iv 1 A1 (costG xs a x).1.length c1 (costG xs a x).1 ∧ OVec w' w.heap.size 3 iv 1 A2 (costG xs a x).2.1.length c2 (costG xs a x).2.1 ∧ Le w w' := by
 have hl := hV.1
 refine enter Tryz.func47 rfl rfl ?_
 have L0 := Le.refl w
 refine WC.sr (W.run 3 rfl (W.nx (WC.seq (WC.sr (W.run 1 rfl ?_)))))
 refine W.cl go84 rfl rfl (r36way_ok w (hV.le L0) (by omega)) ?_
 rintro _ w1_1 ⟨rfl, h1_1⟩
 have L1 := L0.trans h1_1
 refine W.run 1 rfl (W.nx ?_)
 by_cases c0 : (wayG xs) = true
 ·refine WC.condN rfl (congrArg not (c0)) ?_
  refine WC.sn (WC.seq (WC.sr (W.run 1 rfl ?_)))
  refine W.cl go88 rfl rfl (r36in_ok a 1 1125899906842624 w1_1) ?_
  rintro _ w3_1 ⟨rfl, h3_1⟩
  have L2 := L1.trans h3_1
  refine W.run 1 rfl ?_
  by_cases q3_3 : (inB a 1 1125899906842624) = true
  ·refine W.a (.dec (.move rfl) (congrArg not (q3_3))) ?_
   refine W.run 1 rfl ?_
   refine W.efg rfl rfl rfl (rfl) rfl rfl ?_
   refine Ef.call go88 rfl rfl (r36in_ok x 1 1048576 w3_1) ?_
   rintro _ w3_5 ⟨rfl, h3_5⟩
   refine ⟨_, rfl, ?_⟩
   have L3 := L2.trans h3_5
   refine W.run 2 rfl (W.nx ?_)
   by_cases c1 : (inB x 1 1048576) = true
   ·refine WC.condN rfl (congrArg not (c1)) ?_
    have hwG : wayG xs = true := by assumption
    have hwl := wayG_len hwG
    have ha1 := inB_T (by assumption : inB a 1 1125899906842624 = true)
    have hx1 := inB_T (by assumption : inB x 1 1048576 = true)
    refine WC.sn (WC.sr (W.run 1 rfl ?_))
    refine W.r (.len Tryz.underlying22 rfl) ?_
    refine W.run 1 rfl (W.nx (WC.sr (W.run 1 rfl (W.ef rfl rfl rfl ?_))))
    refine Ef.vmake 0 n Tryz.underlying24 el3 iv_row rfl rfl (rfl) rfl (rfl) (by omega) (by unfold maxLen; omega) ?_
    intro g6_1 w6_1 hg6_1 o6_1 h6_1
    have L4 := L3.trans h6_1
    refine W.run 1 rfl (W.nx (WC.sr (W.run 1 rfl (W.ef rfl rfl rfl ?_))))
    refine Ef.vmake 0 n Tryz.underlying24 el3 iv_row rfl rfl (rfl) rfl (rfl) (by omega) (by unfold maxLen; omega) ?_
    intro g7_1 w7_1 hg7_1 o7_1 h7_1
    have L5 := L4.trans h7_1
    refine W.run 1 rfl (W.nx (WC.seq (WC.sr (W.run 1 rfl ?_))))
    refine W.a (.sub rfl rfl (by omega)) ?_
    refine W.run 1 rfl (W.nx (WC.block ?_))
    have f6 := (o6_1.le h7_1)
    refine WC.loop (ι := Nat × (Option (Int × Int)) × (List (Int × Int))) (fun ⟨j, nx, l⟩ => [(0, .slice A n c), (1, .int .i64 (a)), (2, .int .i64 (x)), (9, .int .i64 (((n : Nat) : Int))), (10, .slice (some ⟨g6_1, 0, none⟩) n n), (11, .slice (some ⟨g7_1, 0, none⟩) n n), (12, .int .i64 (((j : Nat) : Int) - 1))]) (fun ⟨j, nx, l⟩ wl0 => (j ≤ n) ∧ (l.length = n - j) ∧ (costF a x (xs.drop j) = .ok (nx, l)) ∧ (j < n → 0 ≤ (l.getD 0 (0, 0)).2) ∧ Le w wl0 ∧ w7_1.heap.size ≤ wl0.heap.size ∧ OVec wl0 w3_5.heap.size 3 iv 1 (some ⟨g6_1, 0, none⟩) n n (List.replicate j 0 ++ l.map Prod.fst) ∧ OVec wl0 w6_1.heap.size 3 iv 1 (some ⟨g7_1, 0, none⟩) n n (List.replicate j 0 ++ l.map Prod.snd)) (fun ⟨j, nx, l⟩ => j) (n, some (a, x), []) ?_ ?_ ?_
    ·exact .cons rfl (.cons rfl (.cons rfl (.cons rfl (.cons rfl (.cons rfl (.cons rfl (.nil _)))))))
    ·exact ⟨Nat.le_refl _, by simp, by rw [List.drop_of_length_le (by omega)]; rfl, fun h => absurd h (Nat.lt_irrefl _), L5, Nat.le_refl _, (f6).cast rfl (by simp), (o7_1).cast rfl (by simp)⟩
    rintro ⟨j, nx, l⟩ wl0 ⟨hj, hll, hF, h0l, Ll0, zl0, f0_0, f0_1⟩
    have lb0_2 : w3_5.heap.size ≤ wl0.heap.size := by have := h6_1.size; have := h7_1.size; omega
    have lb0_3 : w6_1.heap.size ≤ wl0.heap.size := by have := h7_1.size; omega
    refine WC.seq (WC.sr (W.run 2 rfl (W.nx ?_)))
    by_cases c2 : 0 ≤ (((j : Nat) : Int) - 1)
    ·refine WC.condY rfl (decide_eq_true c2) ?_
     refine WC.sn (WC.seq (WC.block (WC.sr (W.run 3 rfl ?_))))
     refine W.a (.idxS ((j - 1)) Tryz.underlying24 sz3 rfl rfl (o6_1.vec.isSome iv_row (by omega)) (by omega) (by omega)) ?_
     refine W.ef0 rfl rfl ?_
     refine Ef.vset (j := (j - 1)) (o := 0) a sz3 rfl (by omega) rfl f0_0 iv_row (getS (List.replicate j 0 ++ l.map Prod.fst) 0 (by simp; omega)) (by decide) rfl rfl ?_
     intro w11_4 o11_4 h11_4
     have L7 := Ll0.then_ h11_4 (fun q hq => Nat.le_trans L3.size (f0_0.row hq).1)
     have o8 := o11_4.cast (m' := n) (ys := (List.replicate (j - 1) 0 ++ a :: l.map Prod.fst)) (rfl) (rep_set _ _ _ (by omega))
     refine W.nx (WC.sr (W.run 3 rfl ?_))
     refine W.a (.idxS ((j - 1)) Tryz.underlying24 sz3 rfl rfl (o7_1.vec.isSome iv_row (by omega)) (by omega) (by omega)) ?_
     have f9 := (f0_1.ch h11_4 ((fun q h1 h2 => by have := (o6_1.row h1).2; have := (f0_1.row h2).1; omega)))
     refine W.ef0 rfl rfl ?_
     refine Ef.vset (j := (j - 1)) (o := 0) x sz3 rfl (by omega) rfl f9 iv_row (getS (List.replicate j 0 ++ l.map Prod.snd) 0 (by simp; omega)) (by decide) rfl rfl ?_
     intro w12_4 o12_4 h12_4
     have L10 := L7.then_ h12_4 (fun q hq => Nat.le_trans L4.size (f9.row hq).1)
     have o11 := o12_4.cast (m' := n) (ys := (List.replicate (j - 1) 0 ++ x :: l.map Prod.snd)) (rfl) (rep_set _ _ _ (by omega))
     refine W.nx (WC.seq (WC.sr (W.run 2 rfl ?_)))
     refine W.a (.sub rfl rfl (by omega)) ?_
     refine W.run 1 rfl (W.nx ?_)
     by_cases c3 : (((j : Nat) : Int) - 1) < (((n : Nat) : Int) - 1)
     ·refine WC.condY rfl (decide_eq_true c3) ?_
      have hok := edgeOk_T (wayG_at hwG (i := j) (by omega)).1
      have hpk := polOk_T hok.2.2.2.2.2
      have hpI := polI_ok hok.2.2.2.2.2
      have hnx := costF_nx hF (by omega)
      have h0l2 := h0l (by omega)
      refine WC.seq ?_
      refine WC.draw [0, 1, 2, 3, 4, 5, 6, 7, 8, 9, 10, 11, 12, 13, 14, 15, 16] mixed (by kernel_rfl) ?_
      intro w14 d14
      have L12 := L10.trans d14
      refine G.run 2 rfl ?_
      refine G.a rfl (.add rfl rfl (by omega)) ?_
      refine G.a rfl (.idxS (j) Tryz.underlying22 sz51 rfl rfl (hV.isSome edgeV_row (by omega)) (by omega) (by omega)) ?_
      refine G.a rfl (.vfield fa51_4 (hV.isSome edgeV_row (by omega)) rfl) ?_
      refine G.r rfl (.vpart (j := j) (o := 4) (polV ((xs.getD j noEdge).pol)) ag49 rfl (by decide) rfl (hV.le L12) edgeV_row (getS xs noEdge (by omega)) rfl) ?_
      refine G.run 2 rfl ?_
      refine G.a rfl (.add rfl rfl (by omega)) ?_
      refine G.a rfl (.idxS (j) Tryz.underlying24 sz3 rfl rfl (o6_1.vec.isSome iv_row (by omega)) (by omega) (by omega)) ?_
      have f13 := ((o8.ch h12_4 ((Apart.symm (fun q h1 h2 => by have := (o6_1.row h1).2; have := (f9.row h2).1; omega)))).le d14)
      refine G.r rfl (.vone (v := .int .i64 (((l.getD 0 (0, 0)).1))) na3 rfl f13.vec iv_row (rep_at1 (f := Prod.fst) l _ (by omega) (by omega)) rfl) ?_
      refine G.ef rfl rfl rfl rfl rfl ?_
      refine Ef.call go89 rfl rfl (r33fee_ok ((xs.getD j noEdge).pol) ((l.getD 0 (0, 0)).1) hpI w14) ?_
      rintro _ w14_11 ⟨rfl, h14_11⟩
      refine ⟨_, rfl, ?_⟩
      refine ⟨fun _ => h14_11, ?_⟩
      have L14 := L12.trans h14_11
      refine G.run 5 rfl (G.nil (E.thenN (WC.sr (W.run 2 rfl ?_))))
      refine W.a (.add rfl rfl (by omega)) ?_
      refine W.a (.idxS (j) Tryz.underlying24 sz3 rfl rfl (o6_1.vec.isSome iv_row (by omega)) (by omega) (by omega)) ?_
      have f15 := (f13.le h14_11)
      refine W.r (.vone (v := .int .i64 (((l.getD 0 (0, 0)).1))) na3 rfl f15.vec iv_row (rep_at1 (f := Prod.fst) l _ (by omega) (by omega)) rfl) ?_
      refine W.run 1 rfl ?_
      refine W.cl go90 rfl rfl (radd_ok ((l.getD 0 (0, 0)).1) ((feeG ((xs.getD j noEdge).pol) ((l.getD 0 (0, 0)).1)).1) w14_11) ?_
      rintro _ w15_6 ⟨rfl, h15_6⟩
      have L16 := L14.trans h15_6
      refine W.run 5 rfl (W.nx (WC.seq (WC.sr (W.run 2 rfl ?_))))
      by_cases q16_2 : ((feeG ((xs.getD j noEdge).pol) ((l.getD 0 (0, 0)).1)).2) = true
      ·refine W.a (.dec (.move rfl) (congrArg not (q16_2))) ?_
       refine W.run 3 rfl (W.nx ?_)
       by_cases c4 : ((addC ((l.getD 0 (0, 0)).1) ((feeG ((xs.getD j noEdge).pol) ((l.getD 0 (0, 0)).1)).1)).2) = true
       ·refine WC.condN rfl (congrArg not (c4)) ?_
        have hsome : nx = some ((addC (l.getD 0 (0, 0)).1 (feeG (xs.getD j noEdge).pol (l.getD 0 (0, 0)).1).1).1, ((l.getD 0 (0, 0)).2 + (xs.getD j noEdge).pol.d)) := by rw [hnx.1]; exact nextC_some (by assumption) (by assumption)
        refine WC.sn (WC.sr (W.run 3 rfl ?_))
        refine W.a (.idxS ((j - 1)) Tryz.underlying24 sz3 rfl rfl (o6_1.vec.isSome iv_row (by omega)) (by omega) (by omega)) ?_
        have f17 := (f15.le h15_6)
        refine W.ef0 rfl rfl ?_
        refine Ef.vset (j := (j - 1)) (o := 0) ((addC ((l.getD 0 (0, 0)).1) ((feeG ((xs.getD j noEdge).pol) ((l.getD 0 (0, 0)).1)).1)).1) sz3 rfl (by omega) rfl f17 iv_row (getS (List.replicate (j - 1) 0 ++ a :: l.map Prod.fst) 0 (by simp)) (by decide) rfl rfl ?_
        intro w18_4 o18_4 h18_4
        have L18 := L16.then_ h18_4 (fun q hq => Nat.le_trans L3.size (f17.row hq).1)
        have o19 := o18_4.cast (m' := n) (ys := (List.replicate (j - 1) 0 ++ (addC (l.getD 0 (0, 0)).1 (feeG (xs.getD j noEdge).pol (l.getD 0 (0, 0)).1).1).1 :: l.map Prod.fst)) (rfl) (rep_set2 _ _ _ _)
        refine W.nx ?_
        refine WC.draw [0, 1, 2, 3, 4, 5, 6, 7, 8, 9, 10, 11, 12, 13, 14, 15, 16] mixed (by kernel_rfl) ?_
        intro w19 d19
        have L20 := L18.trans d19
        refine G.run 4 rfl ?_
        refine G.a rfl (.add rfl rfl (by omega)) ?_
        refine G.a rfl (.idxS (j) Tryz.underlying24 sz3 rfl rfl (o7_1.vec.isSome iv_row (by omega)) (by omega) (by omega)) ?_
        have f21 := (((o11.le (d14.trans (h14_11.trans h15_6))).ch h18_4 ((fun q h1 h2 => by have := (o6_1.row h1).2; have := (o11.row h2).1; omega))).le d19)
        refine G.r rfl (.vone (v := .int .i64 (((l.getD 0 (0, 0)).2))) na3 rfl f21.vec iv_row (rep_at1 (f := Prod.snd) l _ (by omega) (by omega)) rfl) ?_
        refine G.run 2 rfl ?_
        refine G.a rfl (.add rfl rfl (by omega)) ?_
        refine G.a rfl (.idxS (j) Tryz.underlying22 sz51 rfl rfl (hV.isSome edgeV_row (by omega)) (by omega) (by omega)) ?_
        refine G.a rfl (.vfield fa51_4 (hV.isSome edgeV_row (by omega)) rfl) ?_
        refine G.a rfl (.vfield fa49_2 (hV.isSome edgeV_row (by omega)) rfl) ?_
        refine G.r rfl (.vcell (j := j) (o := 6) (v := .int .i64 ((xs.getD j noEdge).pol.d)) na3 rfl (hV.le L20) edgeV_row (getS xs noEdge (by omega)) rfl) ?_
        refine G.a rfl (.add rfl rfl (by omega)) ?_
        refine G.a rfl (.idxS ((j - 1)) Tryz.underlying24 sz3 rfl rfl (o7_1.vec.isSome iv_row (by omega)) (by omega) (by omega)) ?_
        refine G.ef0 rfl rfl rfl rfl ?_
        refine Ef.vset (j := (j - 1)) (o := 0) (((l.getD 0 (0, 0)).2) + ((xs.getD j noEdge).pol.d)) sz3 rfl (by omega) rfl f21 iv_row (getS (List.replicate (j - 1) 0 ++ x :: l.map Prod.snd) 0 (by simp)) (by decide) rfl rfl ?_
        intro w19_16 o19_16 h19_16
        refine ⟨fun h => absurd h (ne_true_of_eq_false (by kernel_rfl)), ?_⟩
        have L22 := L20.then_ h19_16 (fun q hq => Nat.le_trans L4.size (f21.row hq).1)
        have o23 := o19_16.cast (m' := n) (ys := (List.replicate (j - 1) 0 ++ ((l.getD 0 (0, 0)).2 + (xs.getD j noEdge).pol.d) :: l.map Prod.snd)) (rfl) (rep_set2 _ _ _ _)
        refine G.nil (E.thenN (WC.seq (WC.seq ?_)))
        refine WC.draw [0, 1, 2, 3, 4, 5, 6, 7, 8, 9, 10, 11, 12, 13, 14, 15, 16, 17, 18, 19, 20, 21, 22, 23, 24, 25, 26, 27, 28, 29] mixed (by kernel_rfl) ?_
        intro w20 d20
        have L24 := L22.trans d20
        refine G.run 2 rfl ?_
        refine G.a rfl (.idxS ((j - 1)) Tryz.underlying24 sz3 rfl rfl (o6_1.vec.isSome iv_row (by omega)) (by omega) (by omega)) ?_
        have f25 := (((o19.le d19).ch h19_16 ((Apart.symm (fun q h1 h2 => by have := (o6_1.row h1).2; have := (f21.row h2).1; omega)))).le d20)
        refine G.r rfl (.vone (v := .int .i64 (((addC (l.getD 0 (0, 0)).1 (feeG (xs.getD j noEdge).pol (l.getD 0 (0, 0)).1).1).1))) na3 rfl f25.vec iv_row (rep_at0 _ _ _ rfl) rfl) ?_
        refine G.run 2 rfl ?_
        refine G.a rfl (.idxS ((j - 1)) Tryz.underlying22 sz51 rfl rfl (hV.isSome edgeV_row (by omega)) (by omega) (by omega)) ?_
        refine G.a rfl (.vfield fa51_4 (hV.isSome edgeV_row (by omega)) rfl) ?_
        refine G.a rfl (.vfield fa49_3 (hV.isSome edgeV_row (by omega)) rfl) ?_
        refine G.r rfl (.vcell (j := (j - 1)) (o := 7) (v := .int .i64 ((xs.getD (j - 1) noEdge).pol.l)) na3 rfl (hV.le L24) edgeV_row (getS xs noEdge (by omega)) rfl) ?_
        refine G.run 2 rfl ?_
        refine G.a rfl (.idxS ((j - 1)) Tryz.underlying22 sz51 rfl rfl (hV.isSome edgeV_row (by omega)) (by omega) (by omega)) ?_
        refine G.a rfl (.vfield fa51_4 (hV.isSome edgeV_row (by omega)) rfl) ?_
        refine G.a rfl (.vfield fa49_4 (hV.isSome edgeV_row (by omega)) rfl) ?_
        refine G.r rfl (.vcell (j := (j - 1)) (o := 8) (v := .int .i64 ((xs.getD (j - 1) noEdge).pol.m)) na3 rfl (hV.le L24) edgeV_row (getS xs noEdge (by omega)) rfl) ?_
        refine G.ef rfl rfl rfl rfl rfl ?_
        refine Ef.call go88 rfl rfl (r36in_ok ((addC (l.getD 0 (0, 0)).1 (feeG (xs.getD j noEdge).pol (l.getD 0 (0, 0)).1).1).1) ((xs.getD (j - 1) noEdge).pol.l) ((xs.getD (j - 1) noEdge).pol.m) w20) ?_
        rintro _ w20_16 ⟨rfl, h20_16⟩
        refine ⟨_, rfl, ?_⟩
        refine ⟨fun _ => h20_16, ?_⟩
        have L26 := L24.trans h20_16
        refine G.run 1 rfl ?_
        by_cases q20_18 : (inB ((addC (l.getD 0 (0, 0)).1 (feeG (xs.getD j noEdge).pol (l.getD 0 (0, 0)).1).1).1) ((xs.getD (j - 1) noEdge).pol.l) ((xs.getD (j - 1) noEdge).pol.m)) = true
        ·refine G.a rfl (.dec (.move rfl) (congrArg not (q20_18))) ?_
         refine G.run 2 rfl ?_
         refine G.ag rfl (.idxS ((j - 1)) Tryz.underlying24 sz3 rfl rfl (o6_1.vec.isSome iv_row (by omega)) (by omega) (by omega)) ?_
         have f27 := (f25.le h20_16)
         refine G.rg rfl (.vone (v := .int .i64 (((addC (l.getD 0 (0, 0)).1 (feeG (xs.getD j noEdge).pol (l.getD 0 (0, 0)).1).1).1))) na3 rfl f27.vec iv_row (rep_at0 _ _ _ rfl) rfl) ?_
         refine G.run 2 rfl ?_
         refine G.ag rfl (.idxS ((j - 1)) Tryz.underlying22 sz51 rfl rfl (hV.isSome edgeV_row (by omega)) (by omega) (by omega)) ?_
         refine G.ag rfl (.vfield fa51_3 (hV.isSome edgeV_row (by omega)) rfl) ?_
         refine G.rg rfl (.vcell (j := (j - 1)) (o := 3) (v := .int .i64 ((xs.getD (j - 1) noEdge).r)) na3 rfl (hV.le L26) edgeV_row (getS xs noEdge (by omega)) rfl) ?_
         refine G.run 2 rfl (G.nil (E.thenN ?_))
         by_cases c5 : ((xs.getD (j - 1) noEdge).r) < ((addC (l.getD 0 (0, 0)).1 (feeG (xs.getD j noEdge).pol (l.getD 0 (0, 0)).1).1).1)
         ·refine WC.condY rfl (decide_eq_true c5) ?_
          refine WC.sr (W.run 3 rfl (W.nx (WC.ret (E.thenR (E.blkR (E.thenR (E.thenR (E.blkR (E.thenR ?_)))))))))
          refine E.retG3 rfl rfl rfl rfl ?_
          have hc : costG xs a x = ([], [], 6) := costG_er (by assumption) (by assumption) (by assumption) (costF_six (by omega) (by omega) (hsome ▸ hF) (fun h => by have h2 := (inB_min _ _ _ _).1 h; first | exact absurd h2.1 (by assumption) | exact h2.2 (by assumption)))
          exact ⟨none, 0, none, 0, by rw [hc]; rfl, by rw [hc]; exact OVec.nil _ _ _ _ _ _, by rw [hc]; exact OVec.nil _ _ _ _ _ _, L26⟩
         refine WC.condN rfl (decide_eq_false c5) ?_
         refine WC.sn (WC.sr (W.run 2 rfl ?_))
         refine W.a (.idxS ((j - 1)) Tryz.underlying24 sz3 rfl rfl (o7_1.vec.isSome iv_row (by omega)) (by omega) (by omega)) ?_
         have f28 := (o23.le (d20.trans h20_16))
         refine W.r (.vone (v := .int .i64 (((l.getD 0 (0, 0)).2 + (xs.getD j noEdge).pol.d))) na3 rfl f28.vec iv_row (rep_at0 _ _ _ rfl) rfl) ?_
         refine W.run 1 rfl (W.nx ?_)
         by_cases c6 : 1048576 < ((l.getD 0 (0, 0)).2 + (xs.getD j noEdge).pol.d)
         ·refine WC.condY rfl (decide_eq_true c6) ?_
          refine WC.sr (W.run 3 rfl (W.nx (WC.ret (E.blkR (E.thenR (E.thenR (E.blkR (E.thenR ?_))))))))
          refine E.retG3 rfl rfl rfl rfl ?_
          have hc : costG xs a x = ([], [], 16) := costG_er (by assumption) (by assumption) (by assumption) (costF_late (by omega) (by omega) (hsome ▸ hF) ((inB_min _ _ _ _).2 ⟨by assumption, by assumption⟩) (by omega))
          exact ⟨none, 0, none, 0, by rw [hc]; rfl, by rw [hc]; exact OVec.nil _ _ _ _ _ _, by rw [hc]; exact OVec.nil _ _ _ _ _ _, L26⟩
         refine WC.condN rfl (decide_eq_false c6) ?_
         refine WC.skip (E.blkN (E.thenN (WC.region (W.run 1 rfl ?_))))
         refine W.a (.sub rfl rfl (by omega)) ?_
         refine W.run 1 rfl (W.nil ?_)
         refine E.again (j - 1, nextC (xs.getD (j - 1) noEdge) (addC (l.getD 0 (0, 0)).1 (feeG (xs.getD j noEdge).pol (l.getD 0 (0, 0)).1).1).1 ((l.getD 0 (0, 0)).2 + (xs.getD j noEdge).pol.d), ((addC (l.getD 0 (0, 0)).1 (feeG (xs.getD j noEdge).pol (l.getD 0 (0, 0)).1).1).1, ((l.getD 0 (0, 0)).2 + (xs.getD j noEdge).pol.d)) :: l) (.cons rfl (.cons rfl (.cons rfl (.cons rfl (.cons rfl (.cons rfl (.cons' rfl (int_eq (by omega)) (.nil _)))))))) ?_ ?_
         ·exact ⟨by omega, by simp; omega, costF_step (by omega) (by omega) (hsome ▸ hF) ((inB_min _ _ _ _).2 ⟨by assumption, by assumption⟩) (by omega), fun _ => by show 0 ≤ ((l.getD 0 (0, 0)).2 + (xs.getD j noEdge).pol.d); omega, L26, by have := zl0; have := h11_4.size; have := h12_4.size; have := d14.size; have := h14_11.size; have := h15_6.size; have := h18_4.size; have := d19.size; have := h19_16.size; have := d20.size; have := h20_16.size; omega, f27, f28⟩
         show j - 1 < j; omega
        refine G.a rfl (.dec (.move rfl) (congrArg not ((Bool.eq_false_iff.2 q20_18)))) ?_
        refine G.run 11 rfl (G.nil (E.thenN (WC.condT rfl (WC.sr (W.run 3 rfl (W.nx (WC.ret (E.thenR (E.blkR (E.thenR (E.thenR (E.blkR (E.thenR ?_)))))))))))))
        refine E.retG3 rfl rfl rfl rfl ?_
        have hc : costG xs a x = ([], [], 6) := costG_er (by assumption) (by assumption) (by assumption) (costF_six (by omega) (by omega) (hsome ▸ hF) (fun h => by have h2 := (inB_min _ _ _ _).1 h; first | exact absurd h2.1 (by assumption) | exact h2.2 (by assumption)))
        exact ⟨none, 0, none, 0, by rw [hc]; rfl, by rw [hc]; exact OVec.nil _ _ _ _ _ _, by rw [hc]; exact OVec.nil _ _ _ _ _ _, L26⟩
       refine WC.condY rfl (congrArg not ((Bool.eq_false_iff.2 c4))) ?_
       refine WC.sr (W.run 3 rfl (W.nx (WC.ret (E.thenR (E.thenR (E.blkR (E.thenR (E.thenR (E.blkR (E.thenR ?_))))))))))
       refine E.retG3 rfl rfl rfl rfl ?_
       have hc : costG xs a x = ([], [], 6) := costG_er (by assumption) (by assumption) (by assumption) (costF_none (j := j) (by omega) (by omega) (by rw [hF, hnx.1, nextC_none (by first | exact .inl (by assumption) | exact .inr (by assumption))]))
       exact ⟨none, 0, none, 0, by rw [hc]; rfl, by rw [hc]; exact OVec.nil _ _ _ _ _ _, by rw [hc]; exact OVec.nil _ _ _ _ _ _, L16⟩
      refine W.a (.dec (.move rfl) (congrArg not ((Bool.eq_false_iff.2 q16_2)))) ?_
      refine W.run 3 rfl (W.nx (WC.condT rfl (WC.sr (W.run 3 rfl (W.nx (WC.ret (E.thenR (E.thenR (E.blkR (E.thenR (E.thenR (E.blkR (E.thenR ?_)))))))))))))
      refine E.retG3 rfl rfl rfl rfl ?_
      have hc : costG xs a x = ([], [], 6) := costG_er (by assumption) (by assumption) (by assumption) (costF_none (j := j) (by omega) (by omega) (by rw [hF, hnx.1, nextC_none (by first | exact .inl (by assumption) | exact .inr (by assumption))]))
      exact ⟨none, 0, none, 0, by rw [hc]; rfl, by rw [hc]; exact OVec.nil _ _ _ _ _ _, by rw [hc]; exact OVec.nil _ _ _ _ _ _, L16⟩
     refine WC.condN rfl (decide_eq_false c3) ?_
     have hl0 : l = [] := List.eq_nil_of_length_eq_zero (by omega)
     have hsome : nx = some (a, x) := by rw [show j = n by omega, List.drop_of_length_le (by omega)] at hF; simp [costF] at hF; exact hF.1.symm
     refine WC.sn (WC.seq (WC.seq ?_))
     refine WC.draw [0, 1, 2, 3, 4, 5, 6, 7, 8, 9, 10, 11, 12, 13, 14, 15, 16, 17, 18, 19, 20, 21, 22, 23, 24, 25, 26, 27, 28, 29] mixed (by kernel_rfl) ?_
     intro w20 d20
     have L29 := L10.trans d20
     refine G.run 2 rfl ?_
     refine G.a rfl (.idxS ((j - 1)) Tryz.underlying24 sz3 rfl rfl (o6_1.vec.isSome iv_row (by omega)) (by omega) (by omega)) ?_
     have f30 := ((o8.ch h12_4 ((Apart.symm (fun q h1 h2 => by have := (o6_1.row h1).2; have := (f9.row h2).1; omega)))).le d20)
     refine G.r rfl (.vone (v := .int .i64 (a)) na3 rfl f30.vec iv_row (rep_at0 _ _ _ rfl) rfl) ?_
     refine G.run 2 rfl ?_
     refine G.a rfl (.idxS ((j - 1)) Tryz.underlying22 sz51 rfl rfl (hV.isSome edgeV_row (by omega)) (by omega) (by omega)) ?_
     refine G.a rfl (.vfield fa51_4 (hV.isSome edgeV_row (by omega)) rfl) ?_
     refine G.a rfl (.vfield fa49_3 (hV.isSome edgeV_row (by omega)) rfl) ?_
     refine G.r rfl (.vcell (j := (j - 1)) (o := 7) (v := .int .i64 ((xs.getD (j - 1) noEdge).pol.l)) na3 rfl (hV.le L29) edgeV_row (getS xs noEdge (by omega)) rfl) ?_
     refine G.run 2 rfl ?_
     refine G.a rfl (.idxS ((j - 1)) Tryz.underlying22 sz51 rfl rfl (hV.isSome edgeV_row (by omega)) (by omega) (by omega)) ?_
     refine G.a rfl (.vfield fa51_4 (hV.isSome edgeV_row (by omega)) rfl) ?_
     refine G.a rfl (.vfield fa49_4 (hV.isSome edgeV_row (by omega)) rfl) ?_
     refine G.r rfl (.vcell (j := (j - 1)) (o := 8) (v := .int .i64 ((xs.getD (j - 1) noEdge).pol.m)) na3 rfl (hV.le L29) edgeV_row (getS xs noEdge (by omega)) rfl) ?_
     refine G.ef rfl rfl rfl rfl rfl ?_
     refine Ef.call go88 rfl rfl (r36in_ok a ((xs.getD (j - 1) noEdge).pol.l) ((xs.getD (j - 1) noEdge).pol.m) w20) ?_
     rintro _ w20_16_1 ⟨rfl, h20_16_1⟩
     refine ⟨_, rfl, ?_⟩
     refine ⟨fun _ => h20_16_1, ?_⟩
     have L31 := L29.trans h20_16_1
     refine G.run 1 rfl ?_
     by_cases q20_18 : (inB a ((xs.getD (j - 1) noEdge).pol.l) ((xs.getD (j - 1) noEdge).pol.m)) = true
     ·refine G.a rfl (.dec (.move rfl) (congrArg not (q20_18))) ?_
      refine G.run 2 rfl ?_
      refine G.ag rfl (.idxS ((j - 1)) Tryz.underlying24 sz3 rfl rfl (o6_1.vec.isSome iv_row (by omega)) (by omega) (by omega)) ?_
      have f32 := (f30.le h20_16_1)
      refine G.rg rfl (.vone (v := .int .i64 (a)) na3 rfl f32.vec iv_row (rep_at0 _ _ _ rfl) rfl) ?_
      refine G.run 2 rfl ?_
      refine G.ag rfl (.idxS ((j - 1)) Tryz.underlying22 sz51 rfl rfl (hV.isSome edgeV_row (by omega)) (by omega) (by omega)) ?_
      refine G.ag rfl (.vfield fa51_3 (hV.isSome edgeV_row (by omega)) rfl) ?_
      refine G.rg rfl (.vcell (j := (j - 1)) (o := 3) (v := .int .i64 ((xs.getD (j - 1) noEdge).r)) na3 rfl (hV.le L31) edgeV_row (getS xs noEdge (by omega)) rfl) ?_
      refine G.run 2 rfl (G.nil (E.thenN ?_))
      by_cases c5 : ((xs.getD (j - 1) noEdge).r) < a
      ·refine WC.condY rfl (decide_eq_true c5) ?_
       refine WC.sr (W.run 3 rfl (W.nx (WC.ret (E.thenR (E.blkR (E.thenR (E.thenR (E.blkR (E.thenR ?_)))))))))
       refine E.retG3 rfl rfl rfl rfl ?_
       have hc : costG xs a x = ([], [], 6) := costG_er (by assumption) (by assumption) (by assumption) (costF_six (by omega) (by omega) (hsome ▸ hF) (fun h => by have h2 := (inB_min _ _ _ _).1 h; first | exact absurd h2.1 (by assumption) | exact h2.2 (by assumption)))
       exact ⟨none, 0, none, 0, by rw [hc]; rfl, by rw [hc]; exact OVec.nil _ _ _ _ _ _, by rw [hc]; exact OVec.nil _ _ _ _ _ _, L31⟩
      refine WC.condN rfl (decide_eq_false c5) ?_
      refine WC.sn (WC.sr (W.run 2 rfl ?_))
      refine W.a (.idxS ((j - 1)) Tryz.underlying24 sz3 rfl rfl (o7_1.vec.isSome iv_row (by omega)) (by omega) (by omega)) ?_
      have f33 := (o11.le (d20.trans h20_16_1))
      refine W.r (.vone (v := .int .i64 (x)) na3 rfl f33.vec iv_row (rep_at0 _ _ _ rfl) rfl) ?_
      refine W.run 1 rfl (W.nx ?_)
      by_cases c6 : 1048576 < x
      ·refine WC.condY rfl (decide_eq_true c6) ?_
       refine WC.sr (W.run 3 rfl (W.nx (WC.ret (E.blkR (E.thenR (E.thenR (E.blkR (E.thenR ?_))))))))
       refine E.retG3 rfl rfl rfl rfl ?_
       have hc : costG xs a x = ([], [], 16) := costG_er (by assumption) (by assumption) (by assumption) (costF_late (by omega) (by omega) (hsome ▸ hF) ((inB_min _ _ _ _).2 ⟨by assumption, by assumption⟩) (by omega))
       exact ⟨none, 0, none, 0, by rw [hc]; rfl, by rw [hc]; exact OVec.nil _ _ _ _ _ _, by rw [hc]; exact OVec.nil _ _ _ _ _ _, L31⟩
      refine WC.condN rfl (decide_eq_false c6) ?_
      refine WC.skip (E.blkN (E.thenN (WC.region (W.run 1 rfl ?_))))
      refine W.a (.sub rfl rfl (by omega)) ?_
      refine W.run 1 rfl (W.nil ?_)
      refine E.again (j - 1, nextC (xs.getD (j - 1) noEdge) a x, (a, x) :: l) (.cons rfl (.cons rfl (.cons rfl (.cons rfl (.cons rfl (.cons rfl (.cons' rfl (int_eq (by omega)) (.nil _)))))))) ?_ ?_
      ·exact ⟨by omega, by simp; omega, costF_step (by omega) (by omega) (hsome ▸ hF) ((inB_min _ _ _ _).2 ⟨by assumption, by assumption⟩) (by omega), fun _ => by show 0 ≤ x; omega, L31, by have := zl0; have := h11_4.size; have := h12_4.size; have := d20.size; have := h20_16_1.size; omega, f32, f33⟩
      show j - 1 < j; omega
     refine G.a rfl (.dec (.move rfl) (congrArg not ((Bool.eq_false_iff.2 q20_18)))) ?_
     refine G.run 11 rfl (G.nil (E.thenN (WC.condT rfl (WC.sr (W.run 3 rfl (W.nx (WC.ret (E.thenR (E.blkR (E.thenR (E.thenR (E.blkR (E.thenR ?_)))))))))))))
     refine E.retG3 rfl rfl rfl rfl ?_
     have hc : costG xs a x = ([], [], 6) := costG_er (by assumption) (by assumption) (by assumption) (costF_six (by omega) (by omega) (hsome ▸ hF) (fun h => by have h2 := (inB_min _ _ _ _).1 h; first | exact absurd h2.1 (by assumption) | exact h2.2 (by assumption)))
     exact ⟨none, 0, none, 0, by rw [hc]; rfl, by rw [hc]; exact OVec.nil _ _ _ _ _ _, by rw [hc]; exact OVec.nil _ _ _ _ _ _, L31⟩
    refine WC.condN rfl (decide_eq_false c2) ?_
    refine WC.exit (E.thenX (E.thenX (E.blkH (E.thenN (WC.sr (W.run 5 rfl (W.nx (WC.ret ?_))))))))
    refine E.retG3 rfl rfl rfl rfl ?_
    have hc := costG_ok (by assumption) (by assumption) (by assumption) (show costF a x xs = .ok (nx, l) by rw [show j = 0 by omega] at hF; exact hF)
    have hj0 : j = 0 := by omega
    subst hj0
    exact ⟨some ⟨g6_1, 0, none⟩, n, some ⟨g7_1, 0, none⟩, n, by rw [hc]; simp [show l.length = n by omega], by rw [hc]; exact ((f0_0.mono L3.size)).cast (by simp; omega) (by simp), by rw [hc]; exact ((f0_1.mono L4.size)).cast (by simp; omega) (by simp), Ll0⟩
   refine WC.condY rfl (congrArg not ((Bool.eq_false_iff.2 c1))) ?_
   refine WC.sr (W.run 3 rfl (W.nx (WC.ret (E.thenR ?_))))
   refine E.retG3 rfl rfl rfl rfl ?_
   have hc : costG xs a x = ([], [], 1) := costG_arg (by assumption) (by first | exact .inl (by assumption) | exact .inr (by assumption))
   exact ⟨none, 0, none, 0, by rw [hc]; rfl, by rw [hc]; exact OVec.nil _ _ _ _ _ _, by rw [hc]; exact OVec.nil _ _ _ _ _ _, L3⟩
  refine W.a (.dec (.move rfl) (congrArg not ((Bool.eq_false_iff.2 q3_3)))) ?_
  refine W.run 4 rfl (W.nx (WC.condT rfl (WC.sr (W.run 3 rfl (W.nx (WC.ret (E.thenR ?_)))))))
  refine E.retG3 rfl rfl rfl rfl ?_
  have hc : costG xs a x = ([], [], 1) := costG_arg (by assumption) (by first | exact .inl (by assumption) | exact .inr (by assumption))
  exact ⟨none, 0, none, 0, by rw [hc]; rfl, by rw [hc]; exact OVec.nil _ _ _ _ _ _, by rw [hc]; exact OVec.nil _ _ _ _ _ _, L2⟩
 refine WC.condY rfl (congrArg not ((Bool.eq_false_iff.2 c0))) ?_
 refine WC.sr (W.run 3 rfl (W.nx (WC.ret (E.thenR ?_))))
 refine E.retG3 rfl rfl rfl rfl ?_
 have hc : costG xs a x = ([], [], 19) := costG_way (by assumption)
 exact ⟨none, 0, none, 0, by rw [hc]; rfl, by rw [hc]; exact OVec.nil _ _ _ _ _ _, by rw [hc]; exact OVec.nil _ _ _ _ _ _, L1⟩


end Go.Proofs.YtmkdeemjkcigkaaGreatDoor

