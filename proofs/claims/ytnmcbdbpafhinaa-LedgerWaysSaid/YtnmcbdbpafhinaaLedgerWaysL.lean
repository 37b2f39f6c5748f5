/- LedgerWays: for every input the law answers true and leaves its arguments as they were. -/
import Derived.Test.YtnmcbdbpafhinaaLedgerWaysK
import Derived.OrdersHeld
import Derived.WalkKit
import Derived.Deep.AppendSrc
import Derived.Deep.MidRow
import Derived.Laws.OwnMore
import Derived.WalkSpells
import Derived.Lib.ConvBytes
import Derived.Lib.AppendZerosOnto
import Derived.Laws.StructEq
import Derived.Maps.RangeRun
import Derived.Laws.Pointers
import Derived.Test.YtnmcbdbpafhinaaProg
import Derived.KernelRfl
import Derived.Lib.Mul64
namespace Go.Proofs.Ytnmcbdbpafhinaa
open Go Go.Sx
set_option maxRecDepth 20000
/-- A fact that the arithmetic's tactic is not to look at. -/
structure Hid (p : Prop) : Prop where
  out : p
theorem divQ (c V T K h l y Y U v e1 e0 R Q1 Q2 : Nat) (hc : 0 < c) (hcV : c * V = T) (hK : K * K = T) (hy : 0 < y) (hY : Y = y * c) (hU : U = h * c + l / V) (hv : v = l * c % T) (h1 : e1 = v / K) (h0 : e0 = v % K) (hR : R = (U * K + e1) % Y) (hQ1 : Q1 = (U * K + e1) / Y) (hQ2 : Q2 = (R * K + e0) / Y) :
    (R * K + e0) % Y / c = (h * T + l) % y ∧ Q1 * K + Q2 = (h * T + l) / y := by
  have hY0 : 0 < Y := by rw [hY]; exact Nat.mul_pos hy hc
  have e5 : K * e1 + e0 = v := by rw [h1, h0]; exact Nat.div_add_mod v K
  have e6 : T * (l / V) + v = l * c := by
    have : l * c / T = l / V := by rw [← hcV, Nat.mul_comm c V]; exact Nat.mul_div_mul_right l V hc
    rw [← this, hv]; exact Nat.div_add_mod _ _
  have e : (U * K + e1) * K + e0 = (h * T + l) * c := by
    rw [Nat.add_mul, Nat.mul_assoc, hK, Nat.mul_comm e1, Nat.add_assoc, e5, hU, Nat.add_mul, Nat.mul_comm (l / V), Nat.add_assoc, e6, Nat.add_mul, Nat.mul_right_comm]
  have d1 : Y * Q1 + R = U * K + e1 := by rw [hQ1, hR]; exact Nat.div_add_mod _ _
  have d2 : Y * Q2 + (R * K + e0) % Y = R * K + e0 := by rw [hQ2]; exact Nat.div_add_mod _ _
  have d3 : (R * K + e0) % Y < Y := Nat.mod_lt _ hY0
  obtain ⟨r, hr⟩ : ∃ r, r = (R * K + e0) % Y := ⟨_, rfl⟩
  rw [← hr] at d2 d3 ⊢
  obtain ⟨N, hN⟩ : ∃ N, N = h * T + l := ⟨_, rfl⟩
  rw [← hN] at e ⊢
  obtain ⟨G, hG⟩ : ∃ G, G = Q1 * K + Q2 := ⟨_, rfl⟩
  rw [← hG]
  have d4 : y * G * c + r = N * c := by
    rw [← e, ← d1, Nat.add_mul, Nat.add_assoc, ← d2, hG, hY, Nat.mul_right_comm, Nat.mul_add, Nat.mul_assoc (y * c), Nat.add_assoc]
  have d5 : y * G ≤ N := Nat.le_of_mul_le_mul_right (by omega) hc
  obtain ⟨D, hD⟩ := Nat.le.dest d5
  have d6 : r = D * c := by rw [← hD, Nat.add_mul] at d4; omega
  have d7 : D < y := by rw [d6, hY] at d3; exact Nat.lt_of_mul_lt_mul_right d3
  rw [d6, Nat.mul_div_cancel _ hc, ← hD, Nat.mul_add_mod, Nat.mod_eq_of_lt d7, Nat.mul_add_div hy, Nat.div_eq_of_lt d7]
  exact ⟨rfl, rfl⟩
theorem div44 (h l y : Nat) (h1 : 524288 ≤ y) (h2 : y < 1048576) (hh : h < y) (hl : l < 18446744073709551616) :
    ∃ Y H G U v, Hid (y * 2 ^ 44 % 18446744073709551616 = Y) ∧ Hid (h * 2 ^ 44 % 18446744073709551616 = H) ∧ Hid (l / 2 ^ 20 = G) ∧ Hid (H ||| G = U) ∧ Hid (l * 2 ^ 44 % 18446744073709551616 = v) ∧ 9223372036854775808 ≤ Y ∧ Y < 18446744073709551616 ∧ U < Y ∧ v < 18446744073709551616 ∧ H < 18446744073709551616 ∧ G < 18446744073709551616 ∧
      ∀ e1 e0 R Q1 Q2, e1 = v / 4294967296 → e0 = v % 4294967296 → R = (U * 4294967296 + e1) % Y → Q1 = (U * 4294967296 + e1) / Y → Q2 = (R * 4294967296 + e0) / Y →
        Hid ((R * 4294967296 + e0) % Y / 2 ^ 44 = (h * 18446744073709551616 + l) % y) ∧ Hid ((Q1 * 4294967296 % 18446744073709551616 + Q2) % 18446744073709551616 = (h * 18446744073709551616 + l) / y) := by
  have p44 : (2 : Nat) ^ 44 = 17592186044416 := by decide
  have p20 : (2 : Nat) ^ 20 = 1048576 := by decide
  have hG : l / 2 ^ 20 < 2 ^ 44 := by rw [Nat.div_lt_iff_lt_mul (by decide)]; exact Nat.lt_of_lt_of_le hl (by decide)
  have hHY : h * 2 ^ 44 + 2 ^ 44 ≤ y * 2 ^ 44 := by rw [← Nat.succ_mul]; exact Nat.mul_le_mul_right _ hh
  have hY1 : y * 2 ^ 44 < 18446744073709551616 := Nat.lt_of_lt_of_le (Nat.mul_lt_mul_of_pos_right h2 (by decide)) (by decide)
  have hY2 : 9223372036854775808 ≤ y * 2 ^ 44 := Nat.le_trans (by decide) (Nat.mul_le_mul_right (2 ^ 44) h1)
  have hH : h * 2 ^ 44 % 18446744073709551616 = h * 2 ^ 44 := Nat.mod_eq_of_lt (Nat.lt_of_le_of_lt (Nat.le_trans (Nat.le_add_right _ _) hHY) hY1)
  have hor : h * 2 ^ 44 ||| l / 2 ^ 20 = h * 2 ^ 44 + l / 2 ^ 20 := by rw [Nat.mul_comm h]; exact (Nat.two_pow_add_eq_or_of_lt hG h).symm
  refine ⟨y * 2 ^ 44, h * 2 ^ 44, l / 2 ^ 20, h * 2 ^ 44 + l / 2 ^ 20, l * 2 ^ 44 % 18446744073709551616, ⟨Nat.mod_eq_of_lt hY1⟩, ⟨hH⟩, ⟨rfl⟩, ⟨hor⟩, ⟨rfl⟩, hY2, hY1, Nat.lt_of_lt_of_le (Nat.add_lt_add_left hG _) hHY, Nat.mod_lt _ (by decide), by rw [← hH]; exact Nat.mod_lt _ (by decide), Nat.lt_trans hG (by decide), ?_⟩
  intro e1 e0 R Q1 Q2 he1 he0 hR hQ1 hQ2
  obtain ⟨g1, g2⟩ := divQ (2 ^ 44) (2 ^ 20) 18446744073709551616 4294967296 h l y _ _ _ e1 e0 R Q1 Q2 (by decide) (by decide) (by decide) (by omega) rfl rfl rfl he1 he0 hR hQ1 hQ2
  refine ⟨⟨g1⟩, ⟨?_⟩⟩
  rw [Nat.mod_add_mod, g2]
  apply Nat.mod_eq_of_lt
  rw [Nat.div_lt_iff_lt_mul (by omega)]
  exact Nat.lt_of_lt_of_le (show h * 18446744073709551616 + l < (h + 1) * 18446744073709551616 from by rw [Nat.succ_mul]; exact Nat.add_lt_add_left hl _) (by rw [Nat.mul_comm 18446744073709551616 y]; exact Nat.mul_le_mul_right _ hh)
theorem len8b : ∀ m, 8 ≤ m → m < 16 → tab8[m]? = some 4 := by
  have h : ∀ m : Fin 16, 8 ≤ m.val → tab8[m.val]? = some 4 := by decide +kernel
  exact fun m h1 h2 => h ⟨m, h2⟩ h1

theorem len64_20 (y : Nat) (h1 : 524288 ≤ y) (h2 : y < 1048576) (w : World) : Calls Try.prog 118 #[.int .u64 ((y : Nat) : Int)] w fun e w' => e = .returned (.int .i64 20) ∧ Le w w' := by
  refine enter Try.func118 rfl rfl ?_
  have L0 := Le.refl w
  refine WC.seq ?_
  refine WC.region ?_
  refine W.any (.assign rfl) rfl rfl rfl ?_
  refine W.nil ?_
  refine E.thenN ?_
  refine WC.seq ?_
  refine WC.seq ?_
  refine WC.region ?_
  refine W.any (.move rfl) rfl rfl rfl ?_
  refine W.any (.geq rfl rfl) rfl rfl rfl ?_
  refine W.nil ?_
  refine E.thenN ?_
  refine WC.condB rfl (fun h => absurd h (by simp; omega)) (fun _ => ?_)
  refine WC.skip ?_
  refine E.thenN ?_
  refine WC.seq ?_
  refine WC.seq ?_
  refine WC.region ?_
  refine W.any (.move rfl) rfl rfl rfl ?_
  refine W.any (.geq rfl rfl) rfl rfl rfl ?_
  refine W.nil ?_
  refine E.thenN ?_
  refine WC.condB rfl (fun _ => ?_) (fun h => absurd h (by simp; omega))
  refine WC.seq ?_
  refine WC.region ?_
  refine W.any (.move rfl) rfl rfl rfl ?_
  refine W.any (.shrE (y) (16) (y / 65536) rfl rfl rfl rfl (by decide) (by omega)) rfl rfl rfl ?_
  refine W.any (.assign rfl) rfl rfl rfl ?_
  refine W.nil ?_
  refine E.thenN ?_
  refine WC.region ?_
  refine W.any (.move rfl) rfl rfl rfl ?_
  refine W.any (.add rfl rfl (by omega)) rfl rfl rfl ?_
  refine W.any (.assign rfl) rfl rfl rfl ?_
  refine W.nil ?_
  refine E.thenN ?_
  refine WC.seq ?_
  refine WC.seq ?_
  refine WC.region ?_
  refine W.any (.move rfl) rfl rfl rfl ?_
  refine W.any (.geq rfl rfl) rfl rfl rfl ?_
  refine W.nil ?_
  refine E.thenN ?_
  refine WC.condB rfl (fun h => absurd h (by simp; omega)) (fun _ => ?_)
  refine WC.skip ?_
  refine E.thenN ?_
  refine WC.seq ?_
  refine WC.region ?_
  refine W.any (.move rfl) rfl rfl rfl ?_
  refine W.any (.move rfl) rfl rfl rfl ?_
  refine W.rd (.toU8 (y / 65536) (isS Try.underlying47) Try.underlying5 rfl rfl) rfl rfl rfl ?_
  refine W.any (.idxStr (y / 65536) 4 Try.underlying9 rfl rfl (by rw [BitVec.toNat_ofNat, Nat.mod_eq_of_lt (by omega)]) (len8b (y / 65536) (by omega) (by omega))) rfl rfl rfl ?_
  refine W.rd (.idI (isS Try.underlying5) Try.underlying3 rfl (IntWalk.i64_in _ (by decide))) rfl rfl rfl ?_
  refine W.any (.add rfl rfl (by decide)) rfl rfl rfl ?_
  refine W.any (.assign rfl) rfl rfl rfl ?_
  refine W.nil ?_
  refine E.thenN ?_
  refine WC.ret ?_
  refine E.ret1 rfl rfl ?_
  exact ⟨rfl, L0⟩

theorem lz64_20 (y : Nat) (h1 : 524288 ≤ y) (h2 : y < 1048576) (w : World) : Calls Try.prog 154 #[.int .u64 ((y : Nat) : Int)] w fun e w' => e = .returned (.int .i64 44) ∧ Le w w' := by
  refine enter Try.func154 rfl rfl ?_
  have L0 := Le.refl w
  refine WC.seq ?_
  refine WC.region ?_
  refine W.any (.assign rfl) rfl rfl rfl ?_
  refine W.nil ?_
  refine E.thenN ?_
  refine WC.seq ?_
  refine WC.region ?_
  refine W.any (.move rfl) rfl rfl rfl ?_
  refine W.ef rfl rfl rfl ?_
  refine Ef.call go118 rfl rfl (len64_20 y h1 h2 w) ?_
  rintro _ w1_1 ⟨rfl, h1_1⟩
  refine ⟨_, rfl, ?_⟩
  have L1_1 := L0.trans h1_1
  refine W.any (.sub rfl rfl (by decide)) rfl rfl rfl ?_
  refine W.any (.assign rfl) rfl rfl rfl ?_
  refine W.nil ?_
  refine E.thenN ?_
  refine WC.ret ?_
  refine E.ret1 rfl rfl ?_
  exact ⟨rfl, L1_1⟩

theorem div64_q44 (h l y : Nat) (h1 : 524288 ≤ y) (h2 : y < 1048576) (hh : h < y) (hl : l < 18446744073709551616) (w : World) : Calls Try.prog 132 #[.int .u64 ((h : Nat) : Int), .int .u64 ((l : Nat) : Int), .int .u64 ((y : Nat) : Int)] w fun e w' => e = .returned (.tuple #[.int .u64 (((h * 18446744073709551616 + l) / y : Nat) : Int), .int .u64 (((h * 18446744073709551616 + l) % y : Nat) : Int)]) ∧ Le w w' := by
  obtain ⟨Y, Hn, Gn, U, v, fY, fH, fG, fU, fv, hYlo, hYhi, hU, hv2, hH2, hG2, fin⟩ := div44 h l y (by omega) (by omega) hh hl
  obtain ⟨a, ha⟩ : ∃ a, a = Y / 4294967296 := ⟨_, rfl⟩
  obtain ⟨b, hb0⟩ : ∃ b, b = Y % 4294967296 := ⟨_, rfl⟩
  obtain ⟨e1, he1⟩ : ∃ e1, e1 = v / 4294967296 := ⟨_, rfl⟩
  obtain ⟨e0, he0⟩ : ∃ e0, e0 = v % 4294967296 := ⟨_, rfl⟩
  have hY : Y = a * 4294967296 + b := by omega
  have ha1 : 2147483648 ≤ a := by omega
  have ha2 : a < 4294967296 := by omega
  have hb1 : b < 4294967296 := by omega
  have he12 : e1 < 4294967296 := by omega
  have he02 : e0 < 4294967296 := by omega
  obtain ⟨R, hR⟩ : ∃ R, R = (U * 4294967296 + e1) % Y := ⟨_, rfl⟩
  obtain ⟨Q1, hQ1⟩ : ∃ Q1, Q1 = (U * 4294967296 + e1) / Y := ⟨_, rfl⟩
  obtain ⟨Q2, hQ2⟩ : ∃ Q2, Q2 = (R * 4294967296 + e0) / Y := ⟨_, rfl⟩
  have hRY : R < Y := by rw [hR]; exact Nat.mod_lt _ (by omega)
  obtain ⟨hfin, hquo⟩ := fin e1 e0 R Q1 Q2 he1 he0 hR hQ1 hQ2
  have hlz : ∀ w, Calls Try.prog 154 #[.int .u64 ((y : Nat) : Int)] w (fun e w' => e = .returned (.int .i64 44) ∧ Le w w') := fun w => by
    exact lz64_20 y (by omega) (by omega) w
  refine enter Try.func132 rfl rfl ?_
  have L0 := Le.refl w
  refine WC.seq ?_
  refine WC.region ?_
  refine W.any (.assign rfl) rfl rfl rfl ?_
  refine W.any (.assign rfl) rfl rfl rfl ?_
  refine W.nil ?_
  refine E.thenN ?_
  refine WC.seq ?_
  refine WC.seq ?_
  refine WC.region ?_
  refine W.any (.move rfl) rfl rfl rfl ?_
  refine W.any (.eql rfl rfl) rfl rfl rfl ?_
  refine W.nil ?_
  refine E.thenN ?_
  refine WC.condB rfl (fun h => absurd h (by simp; omega)) (fun _ => ?_)
  refine WC.skip ?_
  refine E.thenN ?_
  refine WC.seq ?_
  refine WC.seq ?_
  refine WC.region ?_
  refine W.any (.move rfl) rfl rfl rfl ?_
  refine W.any (.move rfl) rfl rfl rfl ?_
  refine W.any (.leq rfl rfl) rfl rfl rfl ?_
  refine W.nil ?_
  refine E.thenN ?_
  refine WC.condB rfl (fun h => absurd h (by simp; omega)) (fun _ => ?_)
  refine WC.skip ?_
  refine E.thenN ?_
  refine WC.seq ?_
  refine WC.seq ?_
  refine WC.region ?_
  refine W.any (.move rfl) rfl rfl rfl ?_
  refine W.any (.eql rfl rfl) rfl rfl rfl ?_
  refine W.nil ?_
  refine E.thenN ?_
  refine WC.cond rfl (fun c2 => ?_) (fun c2 => ?_)
  · have h0 : h = 0 := by omega
    subst h0
    refine WC.seq ?_
    refine WC.draw [0, 1, 2, 3, 4, 5, 6, 7] mixed (by kernel_rfl) ?_
    intro w6 d6
    have L6 := L0.trans d6
    refine G.any rfl rfl (.move rfl) rfl rfl rfl ?_
    refine G.any rfl rfl (.move rfl) rfl rfl rfl ?_
    refine G.any rfl rfl (.quoN (l) (y) (l / y) rfl rfl rfl rfl (by omega) (by omega) (rfl)) rfl rfl rfl ?_
    refine G.any rfl rfl (.move rfl) rfl rfl rfl ?_
    refine G.any rfl rfl (.move rfl) rfl rfl rfl ?_
    refine G.any rfl rfl (.remN (l) (y) (l % y) rfl rfl rfl rfl (by omega) (rfl)) rfl rfl rfl ?_
    refine G.any rfl rfl (.assign rfl) rfl rfl rfl ?_
    refine G.any rfl rfl (.assign rfl) rfl rfl rfl ?_
    refine G.nil ?_
    refine E.thenN ?_
    refine WC.ret ?_
    refine E.thenR ?_
    refine E.ret2 rfl rfl rfl ?_
    exact ⟨by rw [Nat.zero_mul, Nat.zero_add], L6⟩
  · refine WC.skip ?_
    refine E.thenN ?_
    refine WC.seq ?_
    refine WC.region ?_
    refine W.any (.move rfl) rfl rfl rfl ?_
    refine W.ef rfl rfl rfl ?_
    refine Ef.call go154 rfl rfl (hlz w) ?_
    rintro _ w7_1 ⟨rfl, h7_1⟩
    refine ⟨_, rfl, ?_⟩
    have L7_1 := L0.trans h7_1
    refine W.rd (.idI (isS Try.underlying3) Try.underlying158 rfl (IntWalk.u64_in _ (by decide))) rfl rfl rfl ?_
    refine W.any (.assign rfl) rfl rfl rfl ?_
    refine W.nil ?_
    refine E.thenN ?_
    refine WC.seq ?_
    refine WC.region ?_
    refine W.any (.move rfl) rfl rfl rfl ?_
    refine W.any (.move rfl) rfl rfl rfl ?_
    refine W.any (.shlN (y) (44) (Y) rfl rfl rfl rfl (by decide) (fY.out)) rfl rfl rfl ?_
    refine W.any (.assign rfl) rfl rfl rfl ?_
    refine W.nil ?_
    refine E.thenN ?_
    refine WC.seq ?_
    refine WC.region ?_
    refine W.any (.move rfl) rfl rfl rfl ?_
    refine W.any (.shrE (Y) (32) (a) rfl rfl rfl rfl (by decide) (by omega)) rfl rfl rfl ?_
    refine W.any (.assign rfl) rfl rfl rfl ?_
    refine W.nil ?_
    refine E.thenN ?_
    refine WC.seq ?_
    refine WC.region ?_
    refine W.any (.move rfl) rfl rfl rfl ?_
    refine W.any (.andE (Y) (4294967295) (b) rfl rfl rfl rfl (by omega) (by omega) ((mask32 _).trans hb0.symm)) rfl rfl rfl ?_
    refine W.any (.assign rfl) rfl rfl rfl ?_
    refine W.nil ?_
    refine E.thenN ?_
    refine WC.seq ?_
    refine WC.region ?_
    refine W.any (.move rfl) rfl rfl rfl ?_
    refine W.any (.move rfl) rfl rfl rfl ?_
    refine W.any (.shlN (h) (44) (Hn) rfl rfl rfl rfl (by decide) (fH.out)) rfl rfl rfl ?_
    refine W.any (.move rfl) rfl rfl rfl ?_
    refine W.any (.move rfl) rfl rfl rfl ?_
    refine W.any (.subN (64) (44) (20) rfl rfl rfl rfl (by decide) (by decide)) rfl rfl rfl ?_
    refine W.any (.shrE (l) (20) (Gn) rfl rfl rfl rfl (by decide) (fG.out)) rfl rfl rfl ?_
    refine W.any (.orE (Hn) (Gn) (U) rfl rfl rfl rfl (by omega) (by omega) (fU.out)) rfl rfl rfl ?_
    refine W.any (.assign rfl) rfl rfl rfl ?_
    refine W.nil ?_
    refine E.thenN ?_
    refine WC.seq ?_
    refine WC.region ?_
    refine W.any (.move rfl) rfl rfl rfl ?_
    refine W.any (.move rfl) rfl rfl rfl ?_
    refine W.any (.shlN (l) (44) (v) rfl rfl rfl rfl (by decide) (fv.out)) rfl rfl rfl ?_
    refine W.any (.assign rfl) rfl rfl rfl ?_
    refine W.nil ?_
    refine E.thenN ?_
    refine WC.seq ?_
    refine WC.region ?_
    refine W.any (.move rfl) rfl rfl rfl ?_
    refine W.any (.shrE (v) (32) (e1) rfl rfl rfl rfl (by decide) (by omega)) rfl rfl rfl ?_
    refine W.any (.assign rfl) rfl rfl rfl ?_
    refine W.nil ?_
    refine E.thenN ?_
    refine WC.seq ?_
    refine WC.region ?_
    refine W.any (.move rfl) rfl rfl rfl ?_
    refine W.any (.andE (v) (4294967295) (e0) rfl rfl rfl rfl (by omega) (by omega) ((mask32 _).trans he0.symm)) rfl rfl rfl ?_
    refine W.any (.assign rfl) rfl rfl rfl ?_
    refine W.nil ?_
    refine E.thenN ?_
    refine WC.seq ?_
    refine WC.region ?_
    refine W.any (.move rfl) rfl rfl rfl ?_
    refine W.any (.move rfl) rfl rfl rfl ?_
    refine W.any (.quoN (U) (a) (U / a) rfl rfl rfl rfl (by omega) (by omega) (rfl)) rfl rfl rfl ?_
    refine W.any (.assign rfl) rfl rfl rfl ?_
    refine W.nil ?_
    refine E.thenN ?_
    refine WC.seq ?_
    refine WC.region ?_
    refine W.any (.move rfl) rfl rfl rfl ?_
    refine W.any (.move rfl) rfl rfl rfl ?_
    refine W.any (.move rfl) rfl rfl rfl ?_
    refine W.any (.mulN (U / a) (a) (U / a * a) rfl rfl rfl rfl (Nat.mod_eq_of_lt (Nat.lt_of_le_of_lt (Nat.div_mul_le_self _ _) (by omega)))) rfl rfl rfl ?_
    refine W.any (.subN (U) (U / a * a) (U % a) rfl rfl rfl rfl (Nat.le_trans (Nat.div_mul_le_self _ _) (by omega)) (sub_div U a (by omega))) rfl rfl rfl ?_
    refine W.any (.assign rfl) rfl rfl rfl ?_
    refine W.nil ?_
    refine E.thenN ?_
    refine WC.cut (ι := Unit) (fun () => [(2, .int .u64 ((Y : Nat) : Int)), (8, .int .u64 (44 : Int)), (9, .int .u64 ((a : Nat) : Int)), (10, .int .u64 ((b : Nat) : Int)), (11, .int .u64 ((U : Nat) : Int)), (13, .int .u64 ((e1 : Nat) : Int)), (14, .int .u64 ((e0 : Nat) : Int)), (15, .int .u64 ((Q1 : Nat) : Int))]) (fun () wc15 => Le w wc15) ?_ ?_
    · refine WC.block ?_
      refine WC.loop (ι := Nat × Nat) (fun ⟨qh, rh⟩ => [(2, .int .u64 ((Y : Nat) : Int)), (8, .int .u64 (44 : Int)), (9, .int .u64 ((a : Nat) : Int)), (10, .int .u64 ((b : Nat) : Int)), (11, .int .u64 ((U : Nat) : Int)), (13, .int .u64 ((e1 : Nat) : Int)), (14, .int .u64 ((e0 : Nat) : Int)), (15, .int .u64 ((qh : Nat) : Int)), (16, .int .u64 ((rh : Nat) : Int))]) (fun ⟨qh, rh⟩ wl => Le w wl ∧ qh * a + rh = U ∧ Q1 ≤ qh ∧ rh < 4294967296 ∧ qh ≤ 4294967297) (fun ⟨qh, rh⟩ => qh) (U / a, U % a) ?_ ?_ ?_
      · exact .cons rfl (.cons rfl (.cons rfl (.cons rfl (.cons rfl (.cons rfl (.cons rfl (.cons rfl (.cons rfl (.nil _)))))))))
      · exact ⟨L7_1, by rw [Nat.mul_comm]; exact Nat.div_add_mod _ _, by rw [hQ1]; exact dig_start hY (by omega) hU (by omega), Nat.lt_of_lt_of_le (Nat.mod_lt _ (by omega)) (by omega), dig_first hY (by omega) (by omega) hU⟩
      · rintro ⟨qh, rh⟩ wl ⟨Ll, hi, hq, hr, hq2⟩
        refine WC.seq ?_
        refine WC.seq ?_
        refine WC.region ?_
        refine W.any (.move rfl) rfl rfl rfl ?_
        refine W.any (.geq rfl rfl) rfl rfl rfl ?_
        by_cases hb : 4294967296 ≤ qh
        · refine W.any (.move rfl) rfl rfl rfl ?_
          refine W.skip rfl rfl rfl (decide_eq_true (by omega)) rfl rfl ?_
          refine W.skip rfl rfl rfl (decide_eq_true (by omega)) rfl rfl ?_
          refine W.skip rfl rfl rfl (decide_eq_true (by omega)) rfl rfl ?_
          refine W.skip rfl rfl rfl (decide_eq_true (by omega)) rfl rfl ?_
          refine W.skip rfl rfl rfl (decide_eq_true (by omega)) rfl rfl ?_
          refine W.skip rfl rfl rfl (decide_eq_true (by omega)) rfl rfl ?_
          refine W.skip rfl rfl rfl (decide_eq_true (by omega)) rfl rfl ?_
          refine W.skip rfl rfl rfl (decide_eq_true (by omega)) rfl rfl ?_
          refine W.any (.pickT rfl (decide_eq_true (by omega)) rfl) rfl rfl rfl ?_
          have hgt : Q1 < qh := by rw [hQ1]; exact dig_gt hY hU (by omega) hi (by omega)
          have hd : qh * a = (qh - 1) * a + a := by rw [← Nat.succ_mul]; congr 1; omega
          have hinv : (qh - 1) * a + (rh + a) = U := by omega
          refine W.nil ?_
          refine E.thenN ?_
          refine WC.condT rfl ?_
          refine WC.skip ?_
          refine E.thenN ?_
          refine WC.block ?_
          refine WC.seq ?_
          refine WC.region ?_
          refine W.any (.move rfl) rfl rfl rfl ?_
          refine W.any (.subN (qh) (1) (qh - 1) rfl rfl rfl rfl (by omega) (by omega)) rfl rfl rfl ?_
          refine W.any (.assign rfl) rfl rfl rfl ?_
          refine W.nil ?_
          refine E.thenN ?_
          refine WC.seq ?_
          refine WC.region ?_
          refine W.any (.move rfl) rfl rfl rfl ?_
          refine W.any (.move rfl) rfl rfl rfl ?_
          refine W.any (.addN (rh) (a) (rh + a) rfl rfl rfl rfl (by omega)) rfl rfl rfl ?_
          refine W.any (.assign rfl) rfl rfl rfl ?_
          refine W.nil ?_
          refine E.thenN ?_
          refine WC.seq ?_
          refine WC.region ?_
          refine W.any (.move rfl) rfl rfl rfl ?_
          refine W.any (.geq rfl rfl) rfl rfl rfl ?_
          refine W.nil ?_
          refine E.thenN ?_
          refine WC.cond rfl (fun c4 => ?_) (fun c4 => ?_)
          · have hqe : qh - 1 = Q1 := Nat.le_antisymm (by rw [hQ1]; exact dig_brk hY (by omega) hb1 hinv (by omega) (by omega)) (by omega)
            refine WC.exit ?_
            refine E.blkX rfl ?_
            refine E.thenX ?_
            refine E.blkH ?_
            refine E.meet () (.cons rfl (.cons rfl (.cons rfl (.cons rfl (.cons rfl (.cons rfl (.cons rfl (.cons' rfl (int_eq (by rw [hqe])) (.nil _))))))))) ?_
            exact Ll
          · refine WC.skip ?_
            refine E.blkN ?_
            refine E.again (qh - 1, rh + a) (.cons rfl (.cons rfl (.cons rfl (.cons rfl (.cons rfl (.cons rfl (.cons rfl (.cons rfl (.cons rfl (.nil _)))))))))) ?_ ?_
            · exact ⟨Ll, hinv, by omega, by omega, by omega⟩
            · first | omega | (simp only []; omega)
        · refine W.any (.move rfl) rfl rfl rfl ?_
          refine W.rdg (Any.rd (.move rfl) _) rfl rfl rfl (decide_eq_false (by omega)) rfl rfl ?_
          refine W.rdg (Any.rd (.move rfl) _) rfl rfl rfl (decide_eq_false (by omega)) rfl rfl ?_
          have hqb : qh * b < 18446744073709551616 := Nat.lt_of_le_of_lt (Nat.mul_le_mul (show qh ≤ 4294967295 by omega) (show b ≤ 4294967295 by omega)) (by decide)
          refine W.rdg (Any.rd (.mulN (qh) (b) (qh * b) rfl rfl rfl rfl (Nat.mod_eq_of_lt hqb)) _) rfl rfl rfl (decide_eq_false (by omega)) rfl rfl ?_
          refine W.rdg (Any.rd (.move rfl) _) rfl rfl rfl (decide_eq_false (by omega)) rfl rfl ?_
          refine W.rdg (Any.rd (.mulN (4294967296) (rh) (4294967296 * rh) rfl rfl rfl rfl (by omega)) _) rfl rfl rfl (decide_eq_false (by omega)) rfl rfl ?_
          refine W.rdg (Any.rd (.move rfl) _) rfl rfl rfl (decide_eq_false (by omega)) rfl rfl ?_
          refine W.rdg (Any.rd (.addN (4294967296 * rh) (e1) (4294967296 * rh + e1) rfl rfl rfl rfl (by omega)) _) rfl rfl rfl (decide_eq_false (by omega)) rfl rfl ?_
          refine W.rdg (Any.rd (.gtr rfl rfl) _) rfl rfl rfl (decide_eq_false (by omega)) rfl rfl ?_
          refine W.any (.pickF rfl (decide_eq_false (by omega)) rfl) rfl rfl rfl ?_
          refine W.nil ?_
          refine E.thenN ?_
          refine WC.cond rfl (fun c3 => ?_) (fun c3 => ?_)
          · have hgt : Q1 < qh := by rw [hQ1]; exact dig_gt hY hU (by omega) hi (by omega)
            have hd : qh * a = (qh - 1) * a + a := by rw [← Nat.succ_mul]; congr 1; omega
            have hinv : (qh - 1) * a + (rh + a) = U := by omega
            refine WC.skip ?_
            refine E.thenN ?_
            refine WC.block ?_
            refine WC.seq ?_
            refine WC.region ?_
            refine W.any (.move rfl) rfl rfl rfl ?_
            refine W.any (.subN (qh) (1) (qh - 1) rfl rfl rfl rfl (by omega) (by omega)) rfl rfl rfl ?_
            refine W.any (.assign rfl) rfl rfl rfl ?_
            refine W.nil ?_
            refine E.thenN ?_
            refine WC.seq ?_
            refine WC.region ?_
            refine W.any (.move rfl) rfl rfl rfl ?_
            refine W.any (.move rfl) rfl rfl rfl ?_
            refine W.any (.addN (rh) (a) (rh + a) rfl rfl rfl rfl (by omega)) rfl rfl rfl ?_
            refine W.any (.assign rfl) rfl rfl rfl ?_
            refine W.nil ?_
            refine E.thenN ?_
            refine WC.seq ?_
            refine WC.region ?_
            refine W.any (.move rfl) rfl rfl rfl ?_
            refine W.any (.geq rfl rfl) rfl rfl rfl ?_
            refine W.nil ?_
            refine E.thenN ?_
            refine WC.cond rfl (fun c4 => ?_) (fun c4 => ?_)
            · have hqe : qh - 1 = Q1 := Nat.le_antisymm (by rw [hQ1]; exact dig_brk hY (by omega) hb1 hinv (by omega) (by omega)) (by omega)
              refine WC.exit ?_
              refine E.blkX rfl ?_
              refine E.thenX ?_
              refine E.blkH ?_
              refine E.meet () (.cons rfl (.cons rfl (.cons rfl (.cons rfl (.cons rfl (.cons rfl (.cons rfl (.cons' rfl (int_eq (by rw [hqe])) (.nil _))))))))) ?_
              exact Ll
            · refine WC.skip ?_
              refine E.blkN ?_
              refine E.again (qh - 1, rh + a) (.cons rfl (.cons rfl (.cons rfl (.cons rfl (.cons rfl (.cons rfl (.cons rfl (.cons rfl (.cons rfl (.nil _)))))))))) ?_ ?_
              · exact ⟨Ll, hinv, by omega, by omega, by omega⟩
              · first | omega | (simp only []; omega)
          · have hqe : qh = Q1 := Nat.le_antisymm (by rw [hQ1]; exact dig_le hY (by omega) hi (by omega)) hq
            refine WC.exit ?_
            refine E.thenX ?_
            refine E.thenX ?_
            refine E.blkH ?_
            refine E.meet () (.cons rfl (.cons rfl (.cons rfl (.cons rfl (.cons rfl (.cons rfl (.cons rfl (.cons' rfl (int_eq (by rw [hqe])) (.nil _))))))))) ?_
            exact Ll
    · rintro ⟨⟩ wc15 Lc15
      refine WC.seq ?_
      refine WC.region ?_
      refine W.any (.move rfl) rfl rfl rfl ?_
      refine W.any (.mulN (U) (4294967296) (U * 4294967296 % 18446744073709551616) rfl rfl rfl rfl (rfl)) rfl rfl rfl ?_
      refine W.any (.move rfl) rfl rfl rfl ?_
      refine W.any (.addN (U * 4294967296 % 18446744073709551616) (e1) ((U * 4294967296 + e1) % 18446744073709551616) rfl rfl rfl rfl (by rw [Nat.mod_add_mod])) rfl rfl rfl ?_
      refine W.any (.move rfl) rfl rfl rfl ?_
      refine W.any (.move rfl) rfl rfl rfl ?_
      refine W.any (.mulN (Q1) (Y) (Q1 * Y % 18446744073709551616) rfl rfl rfl rfl (rfl)) rfl rfl rfl ?_
      refine W.any (.subN ((U * 4294967296 + e1) % 18446744073709551616) (Q1 * Y % 18446744073709551616) (R) rfl rfl rfl rfl (Nat.le_of_lt (Nat.mod_lt _ (by decide))) ((dig_rest Y _ _ hQ1 (by omega) (by omega)).trans hR.symm)) rfl rfl rfl ?_
      refine W.any (.assign rfl) rfl rfl rfl ?_
      refine W.nil ?_
      refine E.thenN ?_
      refine WC.seq ?_
      refine WC.region ?_
      refine W.any (.move rfl) rfl rfl rfl ?_
      refine W.any (.move rfl) rfl rfl rfl ?_
      refine W.any (.quoN (R) (a) (R / a) rfl rfl rfl rfl (by omega) (by omega) (rfl)) rfl rfl rfl ?_
      refine W.any (.assign rfl) rfl rfl rfl ?_
      refine W.nil ?_
      refine E.thenN ?_
      refine WC.seq ?_
      refine WC.region ?_
      refine W.any (.move rfl) rfl rfl rfl ?_
      refine W.any (.move rfl) rfl rfl rfl ?_
      refine W.any (.move rfl) rfl rfl rfl ?_
      refine W.any (.mulN (R / a) (a) (R / a * a) rfl rfl rfl rfl (Nat.mod_eq_of_lt (Nat.lt_of_le_of_lt (Nat.div_mul_le_self _ _) (by omega)))) rfl rfl rfl ?_
      refine W.any (.subN (R) (R / a * a) (R % a) rfl rfl rfl rfl (Nat.le_trans (Nat.div_mul_le_self _ _) (by omega)) (sub_div R a (by omega))) rfl rfl rfl ?_
      refine W.any (.assign rfl) rfl rfl rfl ?_
      refine W.nil ?_
      refine E.thenN ?_
      refine WC.cut (ι := Unit) (fun () => [(2, .int .u64 ((Y : Nat) : Int)), (8, .int .u64 (44 : Int)), (9, .int .u64 ((a : Nat) : Int)), (10, .int .u64 ((b : Nat) : Int)), (14, .int .u64 ((e0 : Nat) : Int)), (17, .int .u64 ((R : Nat) : Int)), (15, .int .u64 ((Q1 : Nat) : Int)), (18, .int .u64 ((Q2 : Nat) : Int))]) (fun () wc18 => Le w wc18) ?_ ?_
      · refine WC.block ?_
        refine WC.loop (ι := Nat × Nat) (fun ⟨qh, rh⟩ => [(2, .int .u64 ((Y : Nat) : Int)), (8, .int .u64 (44 : Int)), (9, .int .u64 ((a : Nat) : Int)), (10, .int .u64 ((b : Nat) : Int)), (14, .int .u64 ((e0 : Nat) : Int)), (17, .int .u64 ((R : Nat) : Int)), (15, .int .u64 ((Q1 : Nat) : Int)), (18, .int .u64 ((qh : Nat) : Int)), (16, .int .u64 ((rh : Nat) : Int))]) (fun ⟨qh, rh⟩ wl => Le w wl ∧ qh * a + rh = R ∧ Q2 ≤ qh ∧ rh < 4294967296 ∧ qh ≤ 4294967297) (fun ⟨qh, rh⟩ => qh) (R / a, R % a) ?_ ?_ ?_
        · exact .cons rfl (.cons rfl (.cons rfl (.cons rfl (.cons rfl (.cons rfl (.cons rfl (.cons rfl (.cons rfl (.nil _)))))))))
        · exact ⟨Lc15, by rw [Nat.mul_comm]; exact Nat.div_add_mod _ _, by rw [hQ2]; exact dig_start hY (by omega) hRY (by omega), Nat.lt_of_lt_of_le (Nat.mod_lt _ (by omega)) (by omega), dig_first hY (by omega) (by omega) hRY⟩
        · rintro ⟨qh, rh⟩ wl ⟨Ll, hi, hq, hr, hq2⟩
          refine WC.seq ?_
          refine WC.seq ?_
          refine WC.region ?_
          refine W.any (.move rfl) rfl rfl rfl ?_
          refine W.any (.geq rfl rfl) rfl rfl rfl ?_
          by_cases hb : 4294967296 ≤ qh
          · refine W.any (.move rfl) rfl rfl rfl ?_
            refine W.skip rfl rfl rfl (decide_eq_true (by omega)) rfl rfl ?_
            refine W.skip rfl rfl rfl (decide_eq_true (by omega)) rfl rfl ?_
            refine W.skip rfl rfl rfl (decide_eq_true (by omega)) rfl rfl ?_
            refine W.skip rfl rfl rfl (decide_eq_true (by omega)) rfl rfl ?_
            refine W.skip rfl rfl rfl (decide_eq_true (by omega)) rfl rfl ?_
            refine W.skip rfl rfl rfl (decide_eq_true (by omega)) rfl rfl ?_
            refine W.skip rfl rfl rfl (decide_eq_true (by omega)) rfl rfl ?_
            refine W.skip rfl rfl rfl (decide_eq_true (by omega)) rfl rfl ?_
            refine W.any (.pickT rfl (decide_eq_true (by omega)) rfl) rfl rfl rfl ?_
            have hgt : Q2 < qh := by rw [hQ2]; exact dig_gt hY hRY (by omega) hi (by omega)
            have hd : qh * a = (qh - 1) * a + a := by rw [← Nat.succ_mul]; congr 1; omega
            have hinv : (qh - 1) * a + (rh + a) = R := by omega
            refine W.nil ?_
            refine E.thenN ?_
            refine WC.condT rfl ?_
            refine WC.skip ?_
            refine E.thenN ?_
            refine WC.block ?_
            refine WC.seq ?_
            refine WC.region ?_
            refine W.any (.move rfl) rfl rfl rfl ?_
            refine W.any (.subN (qh) (1) (qh - 1) rfl rfl rfl rfl (by omega) (by omega)) rfl rfl rfl ?_
            refine W.any (.assign rfl) rfl rfl rfl ?_
            refine W.nil ?_
            refine E.thenN ?_
            refine WC.seq ?_
            refine WC.region ?_
            refine W.any (.move rfl) rfl rfl rfl ?_
            refine W.any (.move rfl) rfl rfl rfl ?_
            refine W.any (.addN (rh) (a) (rh + a) rfl rfl rfl rfl (by omega)) rfl rfl rfl ?_
            refine W.any (.assign rfl) rfl rfl rfl ?_
            refine W.nil ?_
            refine E.thenN ?_
            refine WC.seq ?_
            refine WC.region ?_
            refine W.any (.move rfl) rfl rfl rfl ?_
            refine W.any (.geq rfl rfl) rfl rfl rfl ?_
            refine W.nil ?_
            refine E.thenN ?_
            refine WC.cond rfl (fun c6 => ?_) (fun c6 => ?_)
            · have hqe : qh - 1 = Q2 := Nat.le_antisymm (by rw [hQ2]; exact dig_brk hY (by omega) hb1 hinv (by omega) (by omega)) (by omega)
              refine WC.exit ?_
              refine E.blkX rfl ?_
              refine E.thenX ?_
              refine E.blkH ?_
              refine E.meet () (.cons rfl (.cons rfl (.cons rfl (.cons rfl (.cons rfl (.cons rfl (.cons rfl (.cons' rfl (int_eq (by rw [hqe])) (.nil _))))))))) ?_
              exact Ll
            · refine WC.skip ?_
              refine E.blkN ?_
              refine E.again (qh - 1, rh + a) (.cons rfl (.cons rfl (.cons rfl (.cons rfl (.cons rfl (.cons rfl (.cons rfl (.cons rfl (.cons rfl (.nil _)))))))))) ?_ ?_
              · exact ⟨Ll, hinv, by omega, by omega, by omega⟩
              · first | omega | (simp only []; omega)
          · refine W.any (.move rfl) rfl rfl rfl ?_
            refine W.rdg (Any.rd (.move rfl) _) rfl rfl rfl (decide_eq_false (by omega)) rfl rfl ?_
            refine W.rdg (Any.rd (.move rfl) _) rfl rfl rfl (decide_eq_false (by omega)) rfl rfl ?_
            have hqb : qh * b < 18446744073709551616 := Nat.lt_of_le_of_lt (Nat.mul_le_mul (show qh ≤ 4294967295 by omega) (show b ≤ 4294967295 by omega)) (by decide)
            refine W.rdg (Any.rd (.mulN (qh) (b) (qh * b) rfl rfl rfl rfl (Nat.mod_eq_of_lt hqb)) _) rfl rfl rfl (decide_eq_false (by omega)) rfl rfl ?_
            refine W.rdg (Any.rd (.move rfl) _) rfl rfl rfl (decide_eq_false (by omega)) rfl rfl ?_
            refine W.rdg (Any.rd (.mulN (4294967296) (rh) (4294967296 * rh) rfl rfl rfl rfl (by omega)) _) rfl rfl rfl (decide_eq_false (by omega)) rfl rfl ?_
            refine W.rdg (Any.rd (.move rfl) _) rfl rfl rfl (decide_eq_false (by omega)) rfl rfl ?_
            refine W.rdg (Any.rd (.addN (4294967296 * rh) (e0) (4294967296 * rh + e0) rfl rfl rfl rfl (by omega)) _) rfl rfl rfl (decide_eq_false (by omega)) rfl rfl ?_
            refine W.rdg (Any.rd (.gtr rfl rfl) _) rfl rfl rfl (decide_eq_false (by omega)) rfl rfl ?_
            refine W.any (.pickF rfl (decide_eq_false (by omega)) rfl) rfl rfl rfl ?_
            refine W.nil ?_
            refine E.thenN ?_
            refine WC.cond rfl (fun c5 => ?_) (fun c5 => ?_)
            · have hgt : Q2 < qh := by rw [hQ2]; exact dig_gt hY hRY (by omega) hi (by omega)
              have hd : qh * a = (qh - 1) * a + a := by rw [← Nat.succ_mul]; congr 1; omega
              have hinv : (qh - 1) * a + (rh + a) = R := by omega
              refine WC.skip ?_
              refine E.thenN ?_
              refine WC.block ?_
              refine WC.seq ?_
              refine WC.region ?_
              refine W.any (.move rfl) rfl rfl rfl ?_
              refine W.any (.subN (qh) (1) (qh - 1) rfl rfl rfl rfl (by omega) (by omega)) rfl rfl rfl ?_
              refine W.any (.assign rfl) rfl rfl rfl ?_
              refine W.nil ?_
              refine E.thenN ?_
              refine WC.seq ?_
              refine WC.region ?_
              refine W.any (.move rfl) rfl rfl rfl ?_
              refine W.any (.move rfl) rfl rfl rfl ?_
              refine W.any (.addN (rh) (a) (rh + a) rfl rfl rfl rfl (by omega)) rfl rfl rfl ?_
              refine W.any (.assign rfl) rfl rfl rfl ?_
              refine W.nil ?_
              refine E.thenN ?_
              refine WC.seq ?_
              refine WC.region ?_
              refine W.any (.move rfl) rfl rfl rfl ?_
              refine W.any (.geq rfl rfl) rfl rfl rfl ?_
              refine W.nil ?_
              refine E.thenN ?_
              refine WC.cond rfl (fun c6 => ?_) (fun c6 => ?_)
              · have hqe : qh - 1 = Q2 := Nat.le_antisymm (by rw [hQ2]; exact dig_brk hY (by omega) hb1 hinv (by omega) (by omega)) (by omega)
                refine WC.exit ?_
                refine E.blkX rfl ?_
                refine E.thenX ?_
                refine E.blkH ?_
                refine E.meet () (.cons rfl (.cons rfl (.cons rfl (.cons rfl (.cons rfl (.cons rfl (.cons rfl (.cons' rfl (int_eq (by rw [hqe])) (.nil _))))))))) ?_
                exact Ll
              · refine WC.skip ?_
                refine E.blkN ?_
                refine E.again (qh - 1, rh + a) (.cons rfl (.cons rfl (.cons rfl (.cons rfl (.cons rfl (.cons rfl (.cons rfl (.cons rfl (.cons rfl (.nil _)))))))))) ?_ ?_
                · exact ⟨Ll, hinv, by omega, by omega, by omega⟩
                · first | omega | (simp only []; omega)
            · have hqe : qh = Q2 := Nat.le_antisymm (by rw [hQ2]; exact dig_le hY (by omega) hi (by omega)) hq
              refine WC.exit ?_
              refine E.thenX ?_
              refine E.thenX ?_
              refine E.blkH ?_
              refine E.meet () (.cons rfl (.cons rfl (.cons rfl (.cons rfl (.cons rfl (.cons rfl (.cons rfl (.cons' rfl (int_eq (by rw [hqe])) (.nil _))))))))) ?_
              exact Ll
      · rintro ⟨⟩ wc18 Lc18
        refine WC.seq ?_
        refine WC.region ?_
        refine W.any (.move rfl) rfl rfl rfl ?_
        refine W.any (.mulN (Q1) (4294967296) (Q1 * 4294967296 % 18446744073709551616) rfl rfl rfl rfl (rfl)) rfl rfl rfl ?_
        refine W.any (.move rfl) rfl rfl rfl ?_
        refine W.any (.addN (Q1 * 4294967296 % 18446744073709551616) (Q2) ((Q1 * 4294967296 % 18446744073709551616 + Q2) % 18446744073709551616) rfl rfl rfl rfl (rfl)) rfl rfl rfl ?_
        refine W.any (.move rfl) rfl rfl rfl ?_
        refine W.any (.mulN (R) (4294967296) (R * 4294967296 % 18446744073709551616) rfl rfl rfl rfl (rfl)) rfl rfl rfl ?_
        refine W.any (.move rfl) rfl rfl rfl ?_
        refine W.any (.addN (R * 4294967296 % 18446744073709551616) (e0) ((R * 4294967296 + e0) % 18446744073709551616) rfl rfl rfl rfl (by rw [Nat.mod_add_mod])) rfl rfl rfl ?_
        refine W.any (.move rfl) rfl rfl rfl ?_
        refine W.any (.move rfl) rfl rfl rfl ?_
        refine W.any (.mulN (Q2) (Y) (Q2 * Y % 18446744073709551616) rfl rfl rfl rfl (rfl)) rfl rfl rfl ?_
        refine W.any (.subN ((R * 4294967296 + e0) % 18446744073709551616) (Q2 * Y % 18446744073709551616) ((R * 4294967296 + e0) % Y) rfl rfl rfl rfl (Nat.le_of_lt (Nat.mod_lt _ (by decide))) (dig_rest Y _ _ hQ2 (by omega) (by omega))) rfl rfl rfl ?_
        refine W.any (.move rfl) rfl rfl rfl ?_
        refine W.any (.shrE ((R * 4294967296 + e0) % Y) (44) ((h * 18446744073709551616 + l) % y) rfl rfl rfl rfl (by decide) (hfin.out)) rfl rfl rfl ?_
        refine W.any (.assign rfl) rfl rfl rfl ?_
        refine W.any (.assign rfl) rfl rfl rfl ?_
        refine W.nil ?_
        refine E.thenN ?_
        refine WC.ret ?_
        refine E.ret2 rfl rfl rfl ?_
        exact ⟨by rw [hquo.out], Lc18⟩
end Go.Proofs.Ytnmcbdbpafhinaa

namespace Go.Proofs.Ytnmcbdbpafhinaa
open Go Go.Sx Go.Hsp Go.Num Go.Osp Go.Gsp
set_option maxRecDepth 20000
set_option linter.unusedVariables false
set_option linter.unusedSimpArgs false
def polV (p : Pol) : List Value := [.int .i64 p.b, .int .i64 p.p, .int .i64 p.d, .int .i64 p.l, .int .i64 p.m]
theorem polV_row : RowF polV 5 := ⟨fun _ => rfl, fun x v hv => by simp [polV] at hv; rcases hv with rfl | rfl | rfl | rfl | rfl <;> rfl, by decide⟩
def edgeV (e : Gsp.Edge) : List Value := [.int .i64 e.f, .int .i64 e.t, .int .i64 e.c, .int .i64 e.r, .int .i64 e.pol.b, .int .i64 e.pol.p, .int .i64 e.pol.d, .int .i64 e.pol.l, .int .i64 e.pol.m]
theorem edgeV_row : RowF edgeV 9 := ⟨fun _ => rfl, fun x v hv => by simp [edgeV] at hv; rcases hv with rfl | rfl | rfl | rfl | rfl | rfl | rfl | rfl | rfl <;> rfl, by decide⟩
theorem partC_nat (an nn : Nat) : partC an nn = if an ≤ 1125899906842624 ∧ an * nn / 1000000 ≤ 1125899906842624 then (((an * nn / 1000000 : Nat) : Int), true) else (0, false) := by
  have e : (an : Int) * (nn : Int) / 1000000 = ((an * nn / 1000000 : Nat) : Int) := by rw [Int.natCast_ediv, Int.natCast_mul]; rfl
  unfold partC
  rw [e]
  by_cases h : an ≤ 1125899906842624 ∧ an * nn / 1000000 ≤ 1125899906842624
  · rw [if_pos h, if_pos (by simp [coinB, inB]; omega)]
  · rw [if_neg h, if_neg (by simp [coinB, inB]; omega)]
theorem gin_ok (n lo hi : Int) (w : World) : Calls Try.prog 73 #[.int .i64 (n), .int .i64 (lo), .int .i64 (hi)] w fun r w' => r = .returned (.bool (inB n lo hi)) ∧ Le w w' := by
  refine enter Try.func73 rfl rfl ?_
  have L0 := Le.refl w
  refine WC.seq ?_
  refine WC.region ?_
  refine W.any (.assign rfl) rfl rfl rfl ?_
  refine W.nil ?_
  refine E.thenN ?_
  refine WC.seq ?_
  refine WC.region ?_
  refine W.any (.move rfl) rfl rfl rfl ?_
  refine W.any (.move rfl) rfl rfl rfl ?_
  refine W.any (.geq rfl rfl) rfl rfl rfl ?_
  by_cases q1_3 : lo ≤ n
  · refine W.any (.dec (.move rfl) (decide_eq_true q1_3)) rfl rfl rfl ?_
    refine W.rdg (Any.rd (.move rfl) _) rfl rfl rfl (rfl) rfl rfl ?_
    refine W.rdg (Any.rd (.move rfl) _) rfl rfl rfl (rfl) rfl rfl ?_
    refine W.rdg (Any.rd (.leq rfl rfl) _) rfl rfl rfl (rfl) rfl rfl ?_
    refine W.any (.pickT rfl rfl rfl) rfl rfl rfl ?_
    refine W.any (.assign rfl) rfl rfl rfl ?_
    refine W.nil ?_
    refine E.thenN ?_
    refine WC.ret ?_
    refine E.retG1 rfl rfl ?_
    exact ⟨congrArg (fun b => Ending.returned (Value.bool b)) (by simp [inB, q1_3]), L0⟩
  · refine W.any (.dec (.move rfl) (decide_eq_false q1_3)) rfl rfl rfl ?_
    refine W.skip rfl rfl rfl (rfl) rfl rfl ?_
    refine W.skip rfl rfl rfl (rfl) rfl rfl ?_
    refine W.skip rfl rfl rfl (rfl) rfl rfl ?_
    refine W.any (.pickF rfl rfl rfl) rfl rfl rfl ?_
    refine W.any (.assign rfl) rfl rfl rfl ?_
    refine W.nil ?_
    refine E.thenN ?_
    refine WC.ret ?_
    refine E.retG1 rfl rfl ?_
    exact ⟨congrArg (fun b => Ending.returned (Value.bool b)) (by simp [inB, q1_3]), L0⟩

theorem hin_ok (n lo hi : Int) (w : World) : Calls Try.prog 105 #[.int .i64 (n), .int .i64 (lo), .int .i64 (hi)] w fun r w' => r = .returned (.bool (inB n lo hi)) ∧ Le w w' := by
  refine enter Try.func105 rfl rfl ?_
  have L0 := Le.refl w
  refine WC.seq ?_
  refine WC.region ?_
  refine W.any (.assign rfl) rfl rfl rfl ?_
  refine W.nil ?_
  refine E.thenN ?_
  refine WC.seq ?_
  refine WC.region ?_
  refine W.any (.move rfl) rfl rfl rfl ?_
  refine W.any (.move rfl) rfl rfl rfl ?_
  refine W.any (.geq rfl rfl) rfl rfl rfl ?_
  by_cases q1_3 : lo ≤ n
  · refine W.any (.dec (.move rfl) (decide_eq_true q1_3)) rfl rfl rfl ?_
    refine W.rdg (Any.rd (.move rfl) _) rfl rfl rfl (rfl) rfl rfl ?_
    refine W.rdg (Any.rd (.move rfl) _) rfl rfl rfl (rfl) rfl rfl ?_
    refine W.rdg (Any.rd (.leq rfl rfl) _) rfl rfl rfl (rfl) rfl rfl ?_
    refine W.any (.pickT rfl rfl rfl) rfl rfl rfl ?_
    refine W.any (.assign rfl) rfl rfl rfl ?_
    refine W.nil ?_
    refine E.thenN ?_
    refine WC.ret ?_
    refine E.retG1 rfl rfl ?_
    exact ⟨congrArg (fun b => Ending.returned (Value.bool b)) (by simp [inB, q1_3]), L0⟩
  · refine W.any (.dec (.move rfl) (decide_eq_false q1_3)) rfl rfl rfl ?_
    refine W.skip rfl rfl rfl (rfl) rfl rfl ?_
    refine W.skip rfl rfl rfl (rfl) rfl rfl ?_
    refine W.skip rfl rfl rfl (rfl) rfl rfl ?_
    refine W.any (.pickF rfl rfl rfl) rfl rfl rfl ?_
    refine W.any (.assign rfl) rfl rfl rfl ?_
    refine W.nil ?_
    refine E.thenN ?_
    refine WC.ret ?_
    refine E.retG1 rfl rfl ?_
    exact ⟨congrArg (fun b => Ending.returned (Value.bool b)) (by simp [inB, q1_3]), L0⟩

theorem npart0_ok (a num : Int) (hn : num ≤ 9223372036854775807) (w : World) : Calls Try.prog 104 #[.int .i64 (a), .int .i64 (num), .int .i64 (1000000)] w fun r w' => ∃ b : Bool, r = .returned (.tuple #[.int .i64 (partC a num).1, .bool b, .bool (partC a num).2]) ∧ Le w w' := by
  refine enter Try.func104 rfl rfl ?_
  have L0 := Le.refl w
  refine WC.seq ?_
  refine WC.region ?_
  refine W.any (.assign rfl) rfl rfl rfl ?_
  refine W.any (.assign rfl) rfl rfl rfl ?_
  refine W.any (.assign rfl) rfl rfl rfl ?_
  refine W.nil ?_
  refine E.thenN ?_
  refine WC.seq ?_
  refine WC.seq ?_
  refine WC.region ?_
  refine W.any (.move rfl) rfl rfl rfl ?_
  refine W.ef rfl rfl rfl ?_
  refine Ef.call go83 rfl rfl (coins_ok a w) ?_
  rintro _ w1_1 ⟨rfl, h1_1⟩
  refine ⟨_, rfl, ?_⟩
  have L1 := L0.trans h1_1
  refine W.any (.not rfl) rfl rfl rfl ?_
  by_cases q1_3 : (coinB a) = true
  · refine W.any (.dec (.move rfl) (congrArg not (q1_3))) rfl rfl rfl ?_
    refine W.rdg (Any.rd (.move rfl) _) rfl rfl rfl (rfl) rfl rfl ?_
    refine W.rdg (Any.rd (.lss rfl rfl) _) rfl rfl rfl (rfl) rfl rfl ?_
    refine W.any (.pickF rfl rfl rfl) rfl rfl rfl ?_
    by_cases q1_7 : num < 0
    · refine W.any (.dec (.move rfl) (decide_eq_true q1_7)) rfl rfl rfl ?_
      refine W.skip rfl rfl rfl (rfl) rfl rfl ?_
      refine W.skip rfl rfl rfl (rfl) rfl rfl ?_
      refine W.any (.pickT rfl rfl rfl) rfl rfl rfl ?_
      refine W.nil ?_
      refine E.thenN ?_
      refine WC.condT rfl ?_
      refine WC.seq ?_
      refine WC.region ?_
      refine W.any (.assign rfl) rfl rfl rfl ?_
      refine W.any (.assign rfl) rfl rfl rfl ?_
      refine W.any (.assign rfl) rfl rfl rfl ?_
      refine W.nil ?_
      refine E.thenN ?_
      refine WC.ret ?_
      refine E.thenR ?_
      refine E.retG3 rfl rfl rfl rfl ?_
      exact ⟨false, (by first | rfl | (simp [partC, q1_3, q1_7]; done) | (simp [partC, q1_3, q1_7]; omega) | (simp [partC, q1_3, q1_7]; split <;> first | (exfalso; omega) | (simp; done) | (simp; omega))), L1⟩
    · refine W.any (.dec (.move rfl) (decide_eq_false q1_7)) rfl rfl rfl ?_
      refine W.rdg (Any.rd (.move rfl) _) rfl rfl rfl (rfl) rfl rfl ?_
      refine W.rdg (Any.rd (.dec (.lss rfl rfl) (show _ = false from by first | decide | rfl)) _) rfl rfl rfl (rfl) rfl rfl ?_
      refine W.any (.pickF rfl rfl rfl) rfl rfl rfl ?_
      refine W.nil ?_
      refine E.thenN ?_
      refine WC.condF rfl ?_
      refine WC.skip ?_
      refine E.thenN ?_
      refine WC.seq ?_
      refine WC.region ?_
      refine W.any (.move rfl) rfl rfl rfl ?_
      have ha := inB_T (show inB a 0 1125899906842624 = true by assumption)
      obtain ⟨an, rfl⟩ := Int.eq_ofNat_of_zero_le ha.1
      obtain ⟨nn, rfl⟩ := Int.eq_ofNat_of_zero_le (show 0 ≤ num by omega)
      refine W.rd (.idI (isS Try.underlying3) Try.underlying47 rfl (IntWalk.u64_in _ (by omega))) rfl rfl rfl ?_
      refine W.any (.move rfl) rfl rfl rfl ?_
      refine W.rd (.idI (isS Try.underlying3) Try.underlying47 rfl (IntWalk.u64_in _ (by omega))) rfl rfl rfl ?_
      refine W.ef rfl rfl rfl ?_
      refine Ef.call go131 rfl rfl (mul64_ok an nn (by omega) (by omega) w1_1) ?_
      rintro _ w3_4 ⟨rfl, h3_4⟩
      refine ⟨_, rfl, ?_⟩
      have L2 := L1.trans h3_4
      have hdm : an * nn / 18446744073709551616 * 18446744073709551616 + an * nn % 18446744073709551616 = an * nn := by rw [Nat.mul_comm]; exact Nat.div_add_mod _ _
      have hlo := Nat.mod_lt (an * nn) (show 0 < 18446744073709551616 by decide)
      generalize hH : an * nn / 18446744073709551616 = H at *
      generalize hLo : an * nn % 18446744073709551616 = Lo at *
      refine W.any (.move rfl) rfl rfl rfl ?_
      refine W.any (.extract (v := .int .u64 (((H : Nat) : Int))) rfl rfl) rfl rfl rfl ?_
      refine W.any (.extract (v := .int .u64 (((Lo : Nat) : Int))) rfl rfl) rfl rfl rfl ?_
      refine W.any (.assign rfl) rfl rfl rfl ?_
      refine W.any (.assign rfl) rfl rfl rfl ?_
      refine W.nil ?_
      refine E.thenN ?_
      refine WC.seq ?_
      refine WC.seq ?_
      refine WC.region ?_
      refine W.any (.move rfl) rfl rfl rfl ?_
      refine W.any (.move rfl) rfl rfl rfl ?_
      refine W.rd (.idI (isS Try.underlying3) Try.underlying47 rfl (IntWalk.u64_in _ (by omega))) rfl rfl rfl ?_
      refine W.any (.geq rfl rfl) rfl rfl rfl ?_
      refine W.nil ?_
      refine E.thenN ?_
      by_cases c1 : 1000000 ≤ ((H : Nat) : Int)
      · refine WC.condY rfl (decide_eq_true c1) ?_
        refine WC.seq ?_
        refine WC.region ?_
        refine W.any (.assign rfl) rfl rfl rfl ?_
        refine W.any (.assign rfl) rfl rfl rfl ?_
        refine W.any (.assign rfl) rfl rfl rfl ?_
        refine W.nil ?_
        refine E.thenN ?_
        refine WC.ret ?_
        refine E.thenR ?_
        refine E.retG3 rfl rfl rfl rfl ?_
        exact ⟨false, by rw [partC_nat]; first | (rw [if_neg (by omega)]; done) | (rw [if_pos (by omega), hQ]), L2⟩
      · refine WC.condN rfl (decide_eq_false c1) ?_
        refine WC.skip ?_
        refine E.thenN ?_
        refine WC.seq ?_
        refine WC.region ?_
        refine W.any (.move rfl) rfl rfl rfl ?_
        refine W.any (.move rfl) rfl rfl rfl ?_
        refine W.any (.move rfl) rfl rfl rfl ?_
        refine W.rd (.idI (isS Try.underlying3) Try.underlying47 rfl (IntWalk.u64_in _ (by omega))) rfl rfl rfl ?_
        refine W.ef rfl rfl rfl ?_
        refine Ef.call go132 rfl rfl (div64_q44 H Lo 1000000 (by decide) (by decide) (by omega) hlo w3_4) ?_
        rintro _ w6_4 ⟨rfl, h6_4⟩
        refine ⟨_, rfl, ?_⟩
        have L3 := L2.trans h6_4
        rw [hdm]
        generalize hQ : an * nn / 1000000 = Qn at *
        generalize hRm : an * nn % 1000000 = Rm at *
        refine W.any (.move rfl) rfl rfl rfl ?_
        refine W.any (.extract (v := .int .u64 (((Qn : Nat) : Int))) rfl rfl) rfl rfl rfl ?_
        refine W.any (.extract (v := .int .u64 (((Rm : Nat) : Int))) rfl rfl) rfl rfl rfl ?_
        refine W.any (.assign rfl) rfl rfl rfl ?_
        refine W.any (.assign rfl) rfl rfl rfl ?_
        refine W.nil ?_
        refine E.thenN ?_
        refine WC.seq ?_
        refine WC.seq ?_
        refine WC.region ?_
        refine W.any (.move rfl) rfl rfl rfl ?_
        refine W.any (.gtr rfl rfl) rfl rfl rfl ?_
        refine W.nil ?_
        refine E.thenN ?_
        by_cases c2 : 1125899906842624 < ((Qn : Nat) : Int)
        · refine WC.condY rfl (decide_eq_true c2) ?_
          refine WC.seq ?_
          refine WC.region ?_
          refine W.any (.assign rfl) rfl rfl rfl ?_
          refine W.any (.assign rfl) rfl rfl rfl ?_
          refine W.any (.assign rfl) rfl rfl rfl ?_
          refine W.nil ?_
          refine E.thenN ?_
          refine WC.ret ?_
          refine E.thenR ?_
          refine E.retG3 rfl rfl rfl rfl ?_
          exact ⟨false, by rw [partC_nat]; first | (rw [if_neg (by omega)]; done) | (rw [if_pos (by omega), hQ]), L3⟩
        · refine WC.condN rfl (decide_eq_false c2) ?_
          refine WC.skip ?_
          refine E.thenN ?_
          refine WC.seq ?_
          refine WC.region ?_
          refine W.any (.move rfl) rfl rfl rfl ?_
          refine W.rd (.idI (isS Try.underlying47) Try.underlying3 rfl (IntWalk.i64_in _ (by omega))) rfl rfl rfl ?_
          refine W.any (.move rfl) rfl rfl rfl ?_
          refine W.any (.gtr rfl rfl) rfl rfl rfl ?_
          refine W.any (.assign rfl) rfl rfl rfl ?_
          refine W.any (.assign rfl) rfl rfl rfl ?_
          refine W.any (.assign rfl) rfl rfl rfl ?_
          refine W.nil ?_
          refine E.thenN ?_
          refine WC.ret ?_
          refine E.retG3 rfl rfl rfl rfl ?_
          exact ⟨decide (0 < ((Rm : Nat) : Int)), by rw [partC_nat]; first | (rw [if_neg (by omega)]; done) | (rw [if_pos (by omega), hQ]), L3⟩
  · refine W.any (.dec (.move rfl) (congrArg not ((Bool.eq_false_iff.2 q1_3)))) rfl rfl rfl ?_
    refine W.skip rfl rfl rfl (rfl) rfl rfl ?_
    refine W.skip rfl rfl rfl (rfl) rfl rfl ?_
    refine W.any (.pickT rfl rfl rfl) rfl rfl rfl ?_
    refine W.any (.move rfl) rfl rfl rfl ?_
    refine W.skip rfl rfl rfl (rfl) rfl rfl ?_
    refine W.skip rfl rfl rfl (rfl) rfl rfl ?_
    refine W.any (.pickT rfl rfl rfl) rfl rfl rfl ?_
    refine W.nil ?_
    refine E.thenN ?_
    refine WC.condT rfl ?_
    refine WC.seq ?_
    refine WC.region ?_
    refine W.any (.assign rfl) rfl rfl rfl ?_
    refine W.any (.assign rfl) rfl rfl rfl ?_
    refine W.any (.assign rfl) rfl rfl rfl ?_
    refine W.nil ?_
    refine E.thenN ?_
    refine WC.ret ?_
    refine E.thenR ?_
    refine E.retG3 rfl rfl rfl rfl ?_
    exact ⟨false, by simp [partC, q1_3], L1⟩

theorem npart_ok (a num : Int) (hn : num ≤ 9223372036854775807) (w : World) : Calls Try.prog 76 #[.int .i64 (a), .int .i64 (num), .int .i64 (1000000)] w fun r w' => r = .returned (.tuple #[.int .i64 (partC a num).1, .bool (partC a num).2]) ∧ Le w w' := by
  refine enter Try.func76 rfl rfl ?_
  have L0 := Le.refl w
  refine WC.seq ?_
  refine WC.region ?_
  refine W.any (.assign rfl) rfl rfl rfl ?_
  refine W.any (.assign rfl) rfl rfl rfl ?_
  refine W.nil ?_
  refine E.thenN ?_
  refine WC.seq ?_
  refine WC.region ?_
  refine W.any (.move rfl) rfl rfl rfl ?_
  refine W.any (.move rfl) rfl rfl rfl ?_
  refine W.any (.move rfl) rfl rfl rfl ?_
  refine W.ef rfl rfl rfl ?_
  refine Ef.call go104 rfl rfl (npart0_ok a num hn w) ?_
  rintro _ w1_3 ⟨bb, rfl, h1_3⟩
  refine ⟨_, rfl, ?_⟩
  have L1 := L0.trans h1_3
  refine W.any (.move rfl) rfl rfl rfl ?_
  refine W.any (.extract (v := .int .i64 ((partC a num).1)) rfl rfl) rfl rfl rfl ?_
  refine W.any (.extract (v := .bool (bb)) rfl rfl) rfl rfl rfl ?_
  refine W.any (.extract (v := .bool ((partC a num).2)) rfl rfl) rfl rfl rfl ?_
  refine W.any (.assign rfl) rfl rfl rfl ?_
  refine W.any (.assign rfl) rfl rfl rfl ?_
  refine W.any (.assign rfl) rfl rfl rfl ?_
  refine W.nil ?_
  refine E.thenN ?_
  refine WC.seq ?_
  refine WC.region ?_
  refine W.any (.move rfl) rfl rfl rfl ?_
  refine W.any (.move rfl) rfl rfl rfl ?_
  refine W.any (.assign rfl) rfl rfl rfl ?_
  refine W.any (.assign rfl) rfl rfl rfl ?_
  refine W.nil ?_
  refine E.thenN ?_
  refine WC.ret ?_
  refine E.retG2 rfl rfl rfl ?_
  exact ⟨rfl, L1⟩

theorem hright_ok (p : Pol) (w : World) : Calls Try.prog 77 #[.agg (polV p).toArray] w fun r w' => r = .returned (.bool (polOk p)) ∧ Le w w' := by
  refine enter Try.func77 rfl rfl ?_
  have L0 := Le.refl w
  refine WC.seq ?_
  refine WC.region ?_
  refine W.ef rfl rfl rfl ?_
  refine Ef.boxA rfl ?_
  intro g0_0 w0_0 hg0_0 b0_0 h0_0
  have L1 := L0.trans h0_0
  have b0_0 : Blk w0_0 g0_0 68 (polV p).toArray := b0_0
  refine W.any (.assign rfl) rfl rfl rfl ?_
  refine W.nil ?_
  refine E.thenN ?_
  refine WC.seq ?_
  refine WC.region ?_
  refine W.any (.field0 fa68_0 rfl) rfl rfl rfl ?_
  refine W.rd (.loadB (v := .int .i64 (p.b)) na3 rfl b0_0 rfl) rfl rfl rfl ?_
  refine W.ef rfl rfl rfl ?_
  refine Ef.call go105 rfl rfl (hin_ok p.b 0 1125899906842624 w0_0) ?_
  rintro _ w1_2 ⟨rfl, h1_2⟩
  refine ⟨_, rfl, ?_⟩
  have L2 := L1.trans h1_2
  by_cases q1_3 : (inB p.b 0 1125899906842624) = true
  · refine W.any (.dec (.move rfl) (q1_3)) rfl rfl rfl ?_
    refine W.rdg (Any.rd (.field0 fa68_3 rfl) _) rfl rfl rfl (rfl) rfl rfl ?_
    have f3 := (b0_0.le h1_2)
    refine W.rdg (.loadB (v := .int .i64 (p.l)) na3 rfl f3 rfl) rfl rfl rfl (rfl) rfl rfl ?_
    refine W.rdg (Any.rd (.field0 fa68_4 rfl) _) rfl rfl rfl (rfl) rfl rfl ?_
    refine W.rdg (.loadB (v := .int .i64 (p.m)) na3 rfl f3 rfl) rfl rfl rfl (rfl) rfl rfl ?_
    refine W.efg rfl rfl rfl (rfl) rfl rfl ?_
    refine Ef.call go105 rfl rfl (hin_ok p.l 0 p.m w1_2) ?_
    rintro _ w1_8 ⟨rfl, h1_8⟩
    refine ⟨_, rfl, ?_⟩
    have L4 := L2.trans h1_8
    refine W.any (.pickT rfl rfl rfl) rfl rfl rfl ?_
    by_cases q1_10 : (inB p.l 0 p.m) = true
    · refine W.any (.dec (.move rfl) (q1_10)) rfl rfl rfl ?_
      refine W.rdg (Any.rd (.field0 fa68_4 rfl) _) rfl rfl rfl (rfl) rfl rfl ?_
      have f5 := (f3.le h1_8)
      refine W.rdg (.loadB (v := .int .i64 (p.m)) na3 rfl f5 rfl) rfl rfl rfl (rfl) rfl rfl ?_
      refine W.efg rfl rfl rfl (rfl) rfl rfl ?_
      refine Ef.call go105 rfl rfl (hin_ok p.m 0 1125899906842624 w1_8) ?_
      rintro _ w1_13 ⟨rfl, h1_13⟩
      refine ⟨_, rfl, ?_⟩
      have L6 := L4.trans h1_13
      refine W.any (.pickT rfl rfl rfl) rfl rfl rfl ?_
      by_cases q1_15 : (inB p.m 0 1125899906842624) = true
      · refine W.any (.dec (.move rfl) (q1_15)) rfl rfl rfl ?_
        refine W.rdg (Any.rd (.field0 fa68_1 rfl) _) rfl rfl rfl (rfl) rfl rfl ?_
        have f7 := (f5.le h1_13)
        refine W.rdg (.loadB (v := .int .i64 (p.p)) na3 rfl f7 rfl) rfl rfl rfl (rfl) rfl rfl ?_
        refine W.efg rfl rfl rfl (rfl) rfl rfl ?_
        refine Ef.call go105 rfl rfl (hin_ok p.p 0 1000000 w1_13) ?_
        rintro _ w1_18 ⟨rfl, h1_18⟩
        refine ⟨_, rfl, ?_⟩
        have L8 := L6.trans h1_18
        refine W.any (.pickT rfl rfl rfl) rfl rfl rfl ?_
        by_cases q1_20 : (inB p.p 0 1000000) = true
        · refine W.any (.dec (.move rfl) (q1_20)) rfl rfl rfl ?_
          refine W.rdg (Any.rd (.field0 fa68_2 rfl) _) rfl rfl rfl (rfl) rfl rfl ?_
          have f9 := (f7.le h1_18)
          refine W.rdg (.loadB (v := .int .i64 (p.d)) na3 rfl f9 rfl) rfl rfl rfl (rfl) rfl rfl ?_
          refine W.efg rfl rfl rfl (rfl) rfl rfl ?_
          refine Ef.call go105 rfl rfl (hin_ok p.d 0 1048576 w1_18) ?_
          rintro _ w1_23 ⟨rfl, h1_23⟩
          refine ⟨_, rfl, ?_⟩
          have L10 := L8.trans h1_23
          refine W.any (.pickT rfl rfl rfl) rfl rfl rfl ?_
          refine W.any (.assign rfl) rfl rfl rfl ?_
          refine W.nil ?_
          refine E.thenN ?_
          refine WC.ret ?_
          refine E.retG1 rfl rfl ?_
          exact ⟨congrArg (fun b => Ending.returned (Value.bool b)) (by simp [polOk, q1_3, q1_10, q1_15, q1_20]), L10⟩
        · refine W.any (.dec (.move rfl) ((Bool.eq_false_iff.2 q1_20))) rfl rfl rfl ?_
          refine W.skip rfl rfl rfl (rfl) rfl rfl ?_
          refine W.skip rfl rfl rfl (rfl) rfl rfl ?_
          refine W.skip rfl rfl rfl (rfl) rfl rfl ?_
          refine W.any (.pickF rfl rfl rfl) rfl rfl rfl ?_
          refine W.any (.assign rfl) rfl rfl rfl ?_
          refine W.nil ?_
          refine E.thenN ?_
          refine WC.ret ?_
          refine E.retG1 rfl rfl ?_
          exact ⟨congrArg (fun b => Ending.returned (Value.bool b)) (by simp [polOk, q1_3, q1_10, q1_15, q1_20]), L8⟩
      · refine W.any (.dec (.move rfl) ((Bool.eq_false_iff.2 q1_15))) rfl rfl rfl ?_
        refine W.skip rfl rfl rfl (rfl) rfl rfl ?_
        refine W.skip rfl rfl rfl (rfl) rfl rfl ?_
        refine W.skip rfl rfl rfl (rfl) rfl rfl ?_
        refine W.any (.pickF rfl rfl rfl) rfl rfl rfl ?_
        refine W.any (.move rfl) rfl rfl rfl ?_
        refine W.skip rfl rfl rfl (rfl) rfl rfl ?_
        refine W.skip rfl rfl rfl (rfl) rfl rfl ?_
        refine W.skip rfl rfl rfl (rfl) rfl rfl ?_
        refine W.any (.pickF rfl rfl rfl) rfl rfl rfl ?_
        refine W.any (.assign rfl) rfl rfl rfl ?_
        refine W.nil ?_
        refine E.thenN ?_
        refine WC.ret ?_
        refine E.retG1 rfl rfl ?_
        exact ⟨congrArg (fun b => Ending.returned (Value.bool b)) (by simp [polOk, q1_3, q1_10, q1_15]), L6⟩
    · refine W.any (.dec (.move rfl) ((Bool.eq_false_iff.2 q1_10))) rfl rfl rfl ?_
      refine W.skip rfl rfl rfl (rfl) rfl rfl ?_
      refine W.skip rfl rfl rfl (rfl) rfl rfl ?_
      refine W.skip rfl rfl rfl (rfl) rfl rfl ?_
      refine W.any (.pickF rfl rfl rfl) rfl rfl rfl ?_
      refine W.any (.move rfl) rfl rfl rfl ?_
      refine W.skip rfl rfl rfl (rfl) rfl rfl ?_
      refine W.skip rfl rfl rfl (rfl) rfl rfl ?_
      refine W.skip rfl rfl rfl (rfl) rfl rfl ?_
      refine W.any (.pickF rfl rfl rfl) rfl rfl rfl ?_
      refine W.any (.move rfl) rfl rfl rfl ?_
      refine W.skip rfl rfl rfl (rfl) rfl rfl ?_
      refine W.skip rfl rfl rfl (rfl) rfl rfl ?_
      refine W.skip rfl rfl rfl (rfl) rfl rfl ?_
      refine W.any (.pickF rfl rfl rfl) rfl rfl rfl ?_
      refine W.any (.assign rfl) rfl rfl rfl ?_
      refine W.nil ?_
      refine E.thenN ?_
      refine WC.ret ?_
      refine E.retG1 rfl rfl ?_
      exact ⟨congrArg (fun b => Ending.returned (Value.bool b)) (by simp [polOk, q1_3, q1_10]), L4⟩
  · refine W.any (.dec (.move rfl) ((Bool.eq_false_iff.2 q1_3))) rfl rfl rfl ?_
    refine W.skip rfl rfl rfl (rfl) rfl rfl ?_
    refine W.skip rfl rfl rfl (rfl) rfl rfl ?_
    refine W.skip rfl rfl rfl (rfl) rfl rfl ?_
    refine W.skip rfl rfl rfl (rfl) rfl rfl ?_
    refine W.skip rfl rfl rfl (rfl) rfl rfl ?_
    refine W.any (.pickF rfl rfl rfl) rfl rfl rfl ?_
    refine W.any (.move rfl) rfl rfl rfl ?_
    refine W.skip rfl rfl rfl (rfl) rfl rfl ?_
    refine W.skip rfl rfl rfl (rfl) rfl rfl ?_
    refine W.skip rfl rfl rfl (rfl) rfl rfl ?_
    refine W.any (.pickF rfl rfl rfl) rfl rfl rfl ?_
    refine W.any (.move rfl) rfl rfl rfl ?_
    refine W.skip rfl rfl rfl (rfl) rfl rfl ?_
    refine W.skip rfl rfl rfl (rfl) rfl rfl ?_
    refine W.skip rfl rfl rfl (rfl) rfl rfl ?_
    refine W.any (.pickF rfl rfl rfl) rfl rfl rfl ?_
    refine W.any (.move rfl) rfl rfl rfl ?_
    refine W.skip rfl rfl rfl (rfl) rfl rfl ?_
    refine W.skip rfl rfl rfl (rfl) rfl rfl ?_
    refine W.skip rfl rfl rfl (rfl) rfl rfl ?_
    refine W.any (.pickF rfl rfl rfl) rfl rfl rfl ?_
    refine W.any (.assign rfl) rfl rfl rfl ?_
    refine W.nil ?_
    refine E.thenN ?_
    refine WC.ret ?_
    refine E.retG1 rfl rfl ?_
    exact ⟨congrArg (fun b => Ending.returned (Value.bool b)) (by simp [polOk, q1_3]), L2⟩

theorem hfee_ok (p : Pol) (a : Int) (hp : PolI p) (w : World) : Calls Try.prog 41 #[.agg (polV p).toArray, .int .i64 (a)] w fun r w' => r = .returned (.tuple #[.int .i64 (feeG p a).1, .bool (feeG p a).2]) ∧ Le w w' := by
  have hp2 := hp.2.1
  refine enter Try.func41 rfl rfl ?_
  have L0 := Le.refl w
  refine WC.seq ?_
  refine WC.region ?_
  refine W.ef rfl rfl rfl ?_
  refine Ef.boxA rfl ?_
  intro g0_0 w0_0 hg0_0 b0_0 h0_0
  have L1 := L0.trans h0_0
  have b0_0 : Blk w0_0 g0_0 68 (polV p).toArray := b0_0
  refine W.any (.assign rfl) rfl rfl rfl ?_
  refine W.any (.assign rfl) rfl rfl rfl ?_
  refine W.nil ?_
  refine E.thenN ?_
  refine WC.seq ?_
  refine WC.region ?_
  refine W.any (.move rfl) rfl rfl rfl ?_
  refine W.any (.field0 fa68_1 rfl) rfl rfl rfl ?_
  refine W.rd (.loadB (v := .int .i64 (p.p)) na3 rfl b0_0 rfl) rfl rfl rfl ?_
  refine W.ef rfl rfl rfl ?_
  refine Ef.call go76 rfl rfl (npart_ok a p.p (by omega) w0_0) ?_
  rintro _ w1_3 ⟨rfl, h1_3⟩
  refine ⟨_, rfl, ?_⟩
  have L2 := L1.trans h1_3
  refine W.any (.move rfl) rfl rfl rfl ?_
  refine W.any (.extract (v := .int .i64 ((partC a p.p).1)) rfl rfl) rfl rfl rfl ?_
  refine W.any (.extract (v := .bool ((partC a p.p).2)) rfl rfl) rfl rfl rfl ?_
  refine W.any (.assign rfl) rfl rfl rfl ?_
  refine W.any (.assign rfl) rfl rfl rfl ?_
  refine W.nil ?_
  refine E.thenN ?_
  refine WC.seq ?_
  refine WC.seq ?_
  refine WC.region ?_
  refine W.any (.move rfl) rfl rfl rfl ?_
  refine W.any (.not rfl) rfl rfl rfl ?_
  by_cases q2_2 : ((partC a p.p).2) = true
  · refine W.any (.dec (.move rfl) (congrArg not (q2_2))) rfl rfl rfl ?_
    have f3 := (b0_0.le h1_3)
    refine W.rdg (.loadAll ag68 (by rfl) rfl f3) rfl rfl rfl (rfl) rfl rfl ?_
    refine W.efg rfl rfl rfl (rfl) rfl rfl ?_
    refine Ef.call go77 rfl rfl (hright_ok p w1_3) ?_
    rintro _ w2_4 ⟨rfl, h2_4⟩
    refine ⟨_, rfl, ?_⟩
    have L4 := L2.trans h2_4
    refine W.rdg (Any.rd (.not rfl) _) rfl rfl rfl (rfl) rfl rfl ?_
    refine W.any (.pickF rfl rfl rfl) rfl rfl rfl ?_
    refine W.nil ?_
    refine E.thenN ?_
    by_cases c0 : (polOk p) = true
    · refine WC.condN rfl (congrArg not (c0)) ?_
      refine WC.skip ?_
      refine E.thenN ?_
      refine WC.seq ?_
      refine WC.region ?_
      refine W.any (.field0 fa68_0 rfl) rfl rfl rfl ?_
      have f5 := (f3.le h2_4)
      refine W.rd (.loadB (v := .int .i64 (p.b)) na3 rfl f5 rfl) rfl rfl rfl ?_
      refine W.any (.move rfl) rfl rfl rfl ?_
      refine W.ef rfl rfl rfl ?_
      refine Ef.call go47 rfl rfl (nadd_ok p.b ((partC a p.p).1) w2_4) ?_
      rintro _ w4_3 ⟨rfl, h4_3⟩
      refine ⟨_, rfl, ?_⟩
      have L6 := L4.trans h4_3
      refine W.any (.extract (v := .int .i64 ((addC p.b ((partC a p.p).1)).1)) rfl rfl) rfl rfl rfl ?_
      refine W.any (.extract (v := .bool ((addC p.b ((partC a p.p).1)).2)) rfl rfl) rfl rfl rfl ?_
      refine W.any (.assign rfl) rfl rfl rfl ?_
      refine W.any (.assign rfl) rfl rfl rfl ?_
      refine W.nil ?_
      refine E.thenN ?_
      refine WC.ret ?_
      refine E.retG2 rfl rfl rfl ?_
      exact ⟨(by first | rfl | (simp [feeG, q2_2, c0]; done) | (simp [feeG, q2_2, c0]; omega) | (simp [feeG, q2_2, c0]; split <;> first | (exfalso; omega) | (simp; done) | (simp; omega))), L6⟩
    · refine WC.condY rfl (congrArg not ((Bool.eq_false_iff.2 c0))) ?_
      refine WC.seq ?_
      refine WC.region ?_
      refine W.any (.assign rfl) rfl rfl rfl ?_
      refine W.any (.assign rfl) rfl rfl rfl ?_
      refine W.nil ?_
      refine E.thenN ?_
      refine WC.ret ?_
      refine E.thenR ?_
      refine E.retG2 rfl rfl rfl ?_
      exact ⟨(by first | rfl | (simp [feeG, q2_2, c0]; done) | (simp [feeG, q2_2, c0]; omega) | (simp [feeG, q2_2, c0]; split <;> first | (exfalso; omega) | (simp; done) | (simp; omega))), L4⟩
  · refine W.any (.dec (.move rfl) (congrArg not ((Bool.eq_false_iff.2 q2_2)))) rfl rfl rfl ?_
    refine W.skip rfl rfl rfl (rfl) rfl rfl ?_
    refine W.skip rfl rfl rfl (rfl) rfl rfl ?_
    refine W.skip rfl rfl rfl (rfl) rfl rfl ?_
    refine W.any (.pickT rfl rfl rfl) rfl rfl rfl ?_
    refine W.nil ?_
    refine E.thenN ?_
    refine WC.condT rfl ?_
    refine WC.seq ?_
    refine WC.region ?_
    refine W.any (.assign rfl) rfl rfl rfl ?_
    refine W.any (.assign rfl) rfl rfl rfl ?_
    refine W.nil ?_
    refine E.thenN ?_
    refine WC.ret ?_
    refine E.thenR ?_
    refine E.retG2 rfl rfl rfl ?_
    exact ⟨(by first | rfl | (simp [feeG, q2_2]; done) | (simp [feeG, q2_2]; omega) | (simp [feeG, q2_2]; split <;> first | (exfalso; omega) | (simp; done) | (simp; omega))), L2⟩

theorem edge_ok (e : Gsp.Edge) (w : World) : Calls Try.prog 103 #[.agg (edgeV e).toArray] w fun r w' => r = .returned (.bool (edgeOk e)) ∧ Le w w' := by
  refine enter Try.func103 rfl rfl ?_
  have L0 := Le.refl w
  refine WC.seq ?_
  refine WC.region ?_
  refine W.ef rfl rfl rfl ?_
  refine Ef.boxA rfl ?_
  intro g0_0 w0_0 hg0_0 b0_0 h0_0
  have L1 := L0.trans h0_0
  have b0_0 : Blk w0_0 g0_0 70 (edgeV e).toArray := b0_0
  refine W.any (.assign rfl) rfl rfl rfl ?_
  refine W.nil ?_
  refine E.thenN ?_
  refine WC.seq ?_
  refine WC.region ?_
  refine W.any (.field0 fa70_0 rfl) rfl rfl rfl ?_
  refine W.rd (.loadB (v := .int .i64 (e.f)) na3 rfl b0_0 rfl) rfl rfl rfl ?_
  refine W.ef rfl rfl rfl ?_
  refine Ef.call go73 rfl rfl (gin_ok e.f 0 11 w0_0) ?_
  rintro _ w1_2 ⟨rfl, h1_2⟩
  refine ⟨_, rfl, ?_⟩
  have L2 := L1.trans h1_2
  by_cases q1_3 : (inB e.f 0 11) = true
  · refine W.any (.dec (.move rfl) (q1_3)) rfl rfl rfl ?_
    refine W.rdg (Any.rd (.field0 fa70_1 rfl) _) rfl rfl rfl (rfl) rfl rfl ?_
    have f3 := (b0_0.le h1_2)
    refine W.rdg (.loadB (v := .int .i64 (e.t)) na3 rfl f3 rfl) rfl rfl rfl (rfl) rfl rfl ?_
    refine W.efg rfl rfl rfl (rfl) rfl rfl ?_
    refine Ef.call go73 rfl rfl (gin_ok e.t 0 11 w1_2) ?_
    rintro _ w1_6 ⟨rfl, h1_6⟩
    refine ⟨_, rfl, ?_⟩
    have L4 := L2.trans h1_6
    refine W.any (.pickT rfl rfl rfl) rfl rfl rfl ?_
    by_cases q1_8 : (inB e.t 0 11) = true
    · refine W.any (.dec (.move rfl) (q1_8)) rfl rfl rfl ?_
      refine W.rdg (Any.rd (.field0 fa70_0 rfl) _) rfl rfl rfl (rfl) rfl rfl ?_
      have f5 := (f3.le h1_6)
      refine W.rdg (.loadB (v := .int .i64 (e.f)) na3 rfl f5 rfl) rfl rfl rfl (rfl) rfl rfl ?_
      refine W.rdg (Any.rd (.field0 fa70_1 rfl) _) rfl rfl rfl (rfl) rfl rfl ?_
      refine W.rdg (.loadB (v := .int .i64 (e.t)) na3 rfl f5 rfl) rfl rfl rfl (rfl) rfl rfl ?_
      refine W.rdg (Any.rd (.neq rfl rfl) _) rfl rfl rfl (rfl) rfl rfl ?_
      refine W.any (.pickT rfl rfl rfl) rfl rfl rfl ?_
      by_cases q1_15 : e.f ≠ e.t
      · refine W.any (.dec (.move rfl) (decide_eq_true q1_15)) rfl rfl rfl ?_
        refine W.rdg (Any.rd (.field0 fa70_2 rfl) _) rfl rfl rfl (rfl) rfl rfl ?_
        refine W.rdg (.loadB (v := .int .i64 (e.c)) na3 rfl f5 rfl) rfl rfl rfl (rfl) rfl rfl ?_
        refine W.efg rfl rfl rfl (rfl) rfl rfl ?_
        refine Ef.call go73 rfl rfl (gin_ok e.c 0 39 w1_6) ?_
        rintro _ w1_18 ⟨rfl, h1_18⟩
        refine ⟨_, rfl, ?_⟩
        have L6 := L4.trans h1_18
        refine W.any (.pickT rfl rfl rfl) rfl rfl rfl ?_
        by_cases q1_20 : (inB e.c 0 39) = true
        · refine W.any (.dec (.move rfl) (q1_20)) rfl rfl rfl ?_
          refine W.rdg (Any.rd (.field0 fa70_3 rfl) _) rfl rfl rfl (rfl) rfl rfl ?_
          have f7 := (f5.le h1_18)
          refine W.rdg (.loadB (v := .int .i64 (e.r)) na3 rfl f7 rfl) rfl rfl rfl (rfl) rfl rfl ?_
          refine W.efg rfl rfl rfl (rfl) rfl rfl ?_
          refine Ef.call go73 rfl rfl (gin_ok e.r 1 1125899906842624 w1_18) ?_
          rintro _ w1_23 ⟨rfl, h1_23⟩
          refine ⟨_, rfl, ?_⟩
          have L8 := L6.trans h1_23
          refine W.any (.pickT rfl rfl rfl) rfl rfl rfl ?_
          by_cases q1_25 : (inB e.r 1 1125899906842624) = true
          · refine W.any (.dec (.move rfl) (q1_25)) rfl rfl rfl ?_
            refine W.rdg (Any.rd (.field0 fa70_4 rfl) _) rfl rfl rfl (rfl) rfl rfl ?_
            have f9 := (f7.le h1_23)
            refine W.rdg (.bpart (polV e.pol) ag68 rfl (by decide) rfl f9 rfl) rfl rfl rfl (rfl) rfl rfl ?_
            refine W.efg rfl rfl rfl (rfl) rfl rfl ?_
            refine Ef.call go77 rfl rfl (hright_ok e.pol w1_23) ?_
            rintro _ w1_28 ⟨rfl, h1_28⟩
            refine ⟨_, rfl, ?_⟩
            have L10 := L8.trans h1_28
            refine W.any (.pickT rfl rfl rfl) rfl rfl rfl ?_
            refine W.any (.assign rfl) rfl rfl rfl ?_
            refine W.nil ?_
            refine E.thenN ?_
            refine WC.ret ?_
            refine E.retG1 rfl rfl ?_
            exact ⟨congrArg (fun b => Ending.returned (Value.bool b)) (by simp [edgeOk, q1_3, q1_8, q1_15, q1_20, q1_25]), L10⟩
          · refine W.any (.dec (.move rfl) ((Bool.eq_false_iff.2 q1_25))) rfl rfl rfl ?_
            refine W.skip rfl rfl rfl (rfl) rfl rfl ?_
            refine W.skip rfl rfl rfl (rfl) rfl rfl ?_
            refine W.skip rfl rfl rfl (rfl) rfl rfl ?_
            refine W.any (.pickF rfl rfl rfl) rfl rfl rfl ?_
            refine W.any (.assign rfl) rfl rfl rfl ?_
            refine W.nil ?_
            refine E.thenN ?_
            refine WC.ret ?_
            refine E.retG1 rfl rfl ?_
            exact ⟨congrArg (fun b => Ending.returned (Value.bool b)) (by simp [edgeOk, q1_3, q1_8, q1_15, q1_20, q1_25]), L8⟩
        · refine W.any (.dec (.move rfl) ((Bool.eq_false_iff.2 q1_20))) rfl rfl rfl ?_
          refine W.skip rfl rfl rfl (rfl) rfl rfl ?_
          refine W.skip rfl rfl rfl (rfl) rfl rfl ?_
          refine W.skip rfl rfl rfl (rfl) rfl rfl ?_
          refine W.any (.pickF rfl rfl rfl) rfl rfl rfl ?_
          refine W.any (.move rfl) rfl rfl rfl ?_
          refine W.skip rfl rfl rfl (rfl) rfl rfl ?_
          refine W.skip rfl rfl rfl (rfl) rfl rfl ?_
          refine W.skip rfl rfl rfl (rfl) rfl rfl ?_
          refine W.any (.pickF rfl rfl rfl) rfl rfl rfl ?_
          refine W.any (.assign rfl) rfl rfl rfl ?_
          refine W.nil ?_
          refine E.thenN ?_
          refine WC.ret ?_
          refine E.retG1 rfl rfl ?_
          exact ⟨congrArg (fun b => Ending.returned (Value.bool b)) (by simp [edgeOk, q1_3, q1_8, q1_15, q1_20]), L6⟩
      · refine W.any (.dec (.move rfl) (decide_eq_false q1_15)) rfl rfl rfl ?_
        refine W.skip rfl rfl rfl (rfl) rfl rfl ?_
        refine W.skip rfl rfl rfl (rfl) rfl rfl ?_
        refine W.skip rfl rfl rfl (rfl) rfl rfl ?_
        refine W.any (.pickF rfl rfl rfl) rfl rfl rfl ?_
        refine W.any (.move rfl) rfl rfl rfl ?_
        refine W.skip rfl rfl rfl (rfl) rfl rfl ?_
        refine W.skip rfl rfl rfl (rfl) rfl rfl ?_
        refine W.skip rfl rfl rfl (rfl) rfl rfl ?_
        refine W.any (.pickF rfl rfl rfl) rfl rfl rfl ?_
        refine W.any (.move rfl) rfl rfl rfl ?_
        refine W.skip rfl rfl rfl (rfl) rfl rfl ?_
        refine W.skip rfl rfl rfl (rfl) rfl rfl ?_
        refine W.skip rfl rfl rfl (rfl) rfl rfl ?_
        refine W.any (.pickF rfl rfl rfl) rfl rfl rfl ?_
        refine W.any (.assign rfl) rfl rfl rfl ?_
        refine W.nil ?_
        refine E.thenN ?_
        refine WC.ret ?_
        refine E.retG1 rfl rfl ?_
        exact ⟨congrArg (fun b => Ending.returned (Value.bool b)) (by simp [edgeOk, q1_3, q1_8, q1_15]), L4⟩
    · refine W.any (.dec (.move rfl) ((Bool.eq_false_iff.2 q1_8))) rfl rfl rfl ?_
      refine W.skip rfl rfl rfl (rfl) rfl rfl ?_
      refine W.skip rfl rfl rfl (rfl) rfl rfl ?_
      refine W.skip rfl rfl rfl (rfl) rfl rfl ?_
      refine W.skip rfl rfl rfl (rfl) rfl rfl ?_
      refine W.skip rfl rfl rfl (rfl) rfl rfl ?_
      refine W.any (.pickF rfl rfl rfl) rfl rfl rfl ?_
      refine W.any (.move rfl) rfl rfl rfl ?_
      refine W.skip rfl rfl rfl (rfl) rfl rfl ?_
      refine W.skip rfl rfl rfl (rfl) rfl rfl ?_
      refine W.skip rfl rfl rfl (rfl) rfl rfl ?_
      refine W.any (.pickF rfl rfl rfl) rfl rfl rfl ?_
      refine W.any (.move rfl) rfl rfl rfl ?_
      refine W.skip rfl rfl rfl (rfl) rfl rfl ?_
      refine W.skip rfl rfl rfl (rfl) rfl rfl ?_
      refine W.skip rfl rfl rfl (rfl) rfl rfl ?_
      refine W.any (.pickF rfl rfl rfl) rfl rfl rfl ?_
      refine W.any (.move rfl) rfl rfl rfl ?_
      refine W.skip rfl rfl rfl (rfl) rfl rfl ?_
      refine W.skip rfl rfl rfl (rfl) rfl rfl ?_
      refine W.skip rfl rfl rfl (rfl) rfl rfl ?_
      refine W.any (.pickF rfl rfl rfl) rfl rfl rfl ?_
      refine W.any (.assign rfl) rfl rfl rfl ?_
      refine W.nil ?_
      refine E.thenN ?_
      refine WC.ret ?_
      refine E.retG1 rfl rfl ?_
      exact ⟨congrArg (fun b => Ending.returned (Value.bool b)) (by simp [edgeOk, q1_3, q1_8]), L4⟩
  · refine W.any (.dec (.move rfl) ((Bool.eq_false_iff.2 q1_3))) rfl rfl rfl ?_
    refine W.skip rfl rfl rfl (rfl) rfl rfl ?_
    refine W.skip rfl rfl rfl (rfl) rfl rfl ?_
    refine W.skip rfl rfl rfl (rfl) rfl rfl ?_
    refine W.any (.pickF rfl rfl rfl) rfl rfl rfl ?_
    refine W.any (.move rfl) rfl rfl rfl ?_
    refine W.skip rfl rfl rfl (rfl) rfl rfl ?_
    refine W.skip rfl rfl rfl (rfl) rfl rfl ?_
    refine W.skip rfl rfl rfl (rfl) rfl rfl ?_
    refine W.skip rfl rfl rfl (rfl) rfl rfl ?_
    refine W.skip rfl rfl rfl (rfl) rfl rfl ?_
    refine W.any (.pickF rfl rfl rfl) rfl rfl rfl ?_
    refine W.any (.move rfl) rfl rfl rfl ?_
    refine W.skip rfl rfl rfl (rfl) rfl rfl ?_
    refine W.skip rfl rfl rfl (rfl) rfl rfl ?_
    refine W.skip rfl rfl rfl (rfl) rfl rfl ?_
    refine W.any (.pickF rfl rfl rfl) rfl rfl rfl ?_
    refine W.any (.move rfl) rfl rfl rfl ?_
    refine W.skip rfl rfl rfl (rfl) rfl rfl ?_
    refine W.skip rfl rfl rfl (rfl) rfl rfl ?_
    refine W.skip rfl rfl rfl (rfl) rfl rfl ?_
    refine W.any (.pickF rfl rfl rfl) rfl rfl rfl ?_
    refine W.any (.move rfl) rfl rfl rfl ?_
    refine W.skip rfl rfl rfl (rfl) rfl rfl ?_
    refine W.skip rfl rfl rfl (rfl) rfl rfl ?_
    refine W.skip rfl rfl rfl (rfl) rfl rfl ?_
    refine W.any (.pickF rfl rfl rfl) rfl rfl rfl ?_
    refine W.any (.assign rfl) rfl rfl rfl ?_
    refine W.nil ?_
    refine E.thenN ?_
    refine WC.ret ?_
    refine E.retG1 rfl rfl ?_
    exact ⟨congrArg (fun b => Ending.returned (Value.bool b)) (by simp [edgeOk, q1_3]), L2⟩

end Go.Proofs.Ytnmcbdbpafhinaa

namespace Go.Proofs.Ytnmcbdbpafhinaa
open Go Go.Sx Go.Hsp Go.Num Go.Osp Go.Gsp
set_option maxRecDepth 20000
set_option linter.unusedSimpArgs false
set_option linter.unusedVariables false
/-- Who was there ahead of edge k. -/
def Been (bs : List Bool) (xs : List Gsp.Edge) (k : Nat) : Prop := ∀ v : Nat, v < 12 → (bs.getD v false = true ↔ ∃ j, j < k ∧ ((xs.getD j noEdge).f = (v : Int) ∨ (xs.getD j noEdge).t = (v : Int)))
theorem been_first (xs : List Gsp.Edge) : Been (List.replicate 12 false) xs 0 := fun v hv => ⟨fun h => absurd h (by rw [show (List.replicate 12 false).getD v false = false from (show ∀ v, v < 12 → (List.replicate 12 false).getD v false = false by decide) v hv]; decide), fun ⟨j, hj, _⟩ => absurd hj (Nat.not_lt_zero _)⟩
theorem been_next {bs : List Bool} {xs : List Gsp.Edge} {k : Nat} (hb : bs.length = 12) (h1 : edgeOk (xs.getD k noEdge) = true) (hd : Been bs xs k) : Been ((bs.set (xs.getD k noEdge).f.toNat true).set (xs.getD k noEdge).t.toNat true) xs (k + 1) := by
  have hok := edgeOk_T h1
  intro v hv
  have e : ((bs.set (xs.getD k noEdge).f.toNat true).set (xs.getD k noEdge).t.toNat true).getD v false = true ↔ ((xs.getD k noEdge).t.toNat = v ∨ (xs.getD k noEdge).f.toNat = v ∨ bs.getD v false = true) := by
    simp only [List.getD, List.getElem?_set, List.length_set, hb]
    by_cases h2 : (xs.getD k noEdge).t.toNat = v
    · simp only [List.getD] at h2; simp [h2, hv]
    · by_cases h3 : (xs.getD k noEdge).f.toNat = v
      · simp only [List.getD] at h2 h3; simp [h2, h3, hv]
      · simp only [List.getD] at h2 h3; simp [h2, h3]
  rw [e, hd v hv]
  constructor
  · rintro (h | h | ⟨j, hj, h⟩)
    · exact ⟨k, by omega, .inr (by omega)⟩
    · exact ⟨k, by omega, .inl (by omega)⟩
    · exact ⟨j, by omega, h⟩
  · rintro ⟨j, hj, h⟩
    by_cases hjk : j = k
    · subst hjk; rcases h with h | h <;> omega
    · exact .inr (.inr ⟨j, by omega, h⟩)
theorem way_next {bs : List Bool} {xs : List Gsp.Edge} {k : Nat} (hz : ∀ j, j < k → WayAt xs j) (h1 : edgeOk (xs.getD k noEdge) = true) (hl : 0 < k → (xs.getD (k - 1) noEdge).t = (xs.getD k noEdge).f) (hd : Been bs xs k) (hn : ¬ bs.getD (xs.getD k noEdge).t.toNat false = true) : ∀ j, j < k + 1 → WayAt xs j := by
  intro j hj
  by_cases hjk : j = k
  · subst hjk
    have hok := edgeOk_T h1
    refine ⟨h1, hl, fun q hq he => ?_⟩
    by_cases hqj : q = j
    · subst hqj; exact hok.2.2.1 he
    · exact hn ((hd _ (by omega)).2 ⟨q, by omega, .inl (by omega)⟩)
  · exact hz j (by omega)
theorem way_fail {bs : List Bool} {xs : List Gsp.Edge} {k : Nat} (hz : ∀ j, j < k → WayAt xs j) (hd : Been bs xs k) (hn : bs.getD (xs.getD k noEdge).t.toNat false = true) : ¬ WayAt xs k := fun ⟨h1, hl, hw⟩ => by
  have hok := edgeOk_T h1
  obtain ⟨j, hj, h | h⟩ := (hd _ (by omega)).1 hn
  · exact hw j (by omega) (by omega)
  · have hj1 : (xs.getD (j + 1) noEdge).f = (xs.getD j noEdge).t := by
      by_cases hjk : j + 1 = k
      · have := hl (by omega); rw [show k - 1 = j by omega] at this; rw [hjk]; exact this.symm
      · have := (hz (j + 1) (by omega)).2.1 (by omega); rw [show j + 1 - 1 = j by omega] at this; exact this.symm
    exact hw (j + 1) (by omega) (by rw [hj1]; omega)
theorem gway_ok {A : Option Addr} {n c : Nat} {xs : List Gsp.Edge} (w : World) (hV : Vec w edgeV 9 A n xs) (hn : n ≤ 1000000) : Calls Try.prog 72 #[.slice A n c] w fun r w' => r = .returned (.bool (wayG xs)) ∧ Le w w' := by
  have hl := hV.1
  refine enter Try.func72 rfl rfl ?_
  have L0 := Le.refl w
  refine WC.seq ?_
  refine WC.region ?_
  refine W.any (.assign rfl) rfl rfl rfl ?_
  refine W.nil ?_
  refine E.thenN ?_
  refine WC.seq ?_
  refine WC.seq ?_
  refine WC.region ?_
  refine W.any (.move rfl) rfl rfl rfl ?_
  refine W.rd (.len Try.underlying82 rfl) rfl rfl rfl ?_
  refine W.ef rfl rfl rfl ?_
  refine Ef.call go73 rfl rfl (gin_ok ((n : Nat) : Int) 1 8 w) ?_
  rintro _ w1_2 ⟨rfl, h1_2⟩
  refine ⟨_, rfl, ?_⟩
  have L1 := L0.trans h1_2
  refine W.any (.not rfl) rfl rfl rfl ?_
  refine W.nil ?_
  refine E.thenN ?_
  by_cases c0 : (inB ((n : Nat) : Int) 1 8) = true
  · refine WC.condN rfl (congrArg not (c0)) ?_
    refine WC.skip ?_
    refine E.thenN ?_
    refine WC.seq ?_
    refine WC.region ?_
    refine W.ef rfl rfl rfl ?_
    refine Ef.allocA z169 ?_
    intro g3_0 w3_0 hg3_0 b3_0 h3_0
    have L2 := L1.trans h3_0
    have b3_0 : Blk w3_0 g3_0 169 (((List.replicate 12 false)).map Value.bool).toArray := b3_0.cast (rfl)
    refine W.nil ?_
    refine E.thenN ?_
    refine WC.seq ?_
    refine WC.seq ?_
    refine WC.region ?_
    refine W.any (.move rfl) rfl rfl rfl ?_
    refine W.rd (.len Try.underlying82 rfl) rfl rfl rfl ?_
    refine W.any (.move rfl) rfl rfl rfl ?_
    refine W.nil ?_
    refine E.thenN ?_
    refine WC.block ?_
    refine WC.loop (ι := Nat × (List Bool)) (fun ⟨k, bs⟩ => [(0, .slice A n c), (3, .pointer (some ⟨g3_0, 0, none⟩)), (10, .slice A n c), (11, .int .i64 (((n : Nat) : Int))), (12, .int .i64 (((k : Nat) : Int)))]) (fun ⟨k, bs⟩ wl0 => (k ≤ n) ∧ (bs.length = 12) ∧ (∀ j, j < k → WayAt xs j) ∧ (Been bs xs k) ∧ Le w wl0 ∧ w3_0.heap.size ≤ wl0.heap.size ∧ Blk wl0 g3_0 169 (bs.map Value.bool).toArray) (fun ⟨k, bs⟩ => n - k) (0, (List.replicate 12 false)) ?_ ?_ ?_
    · exact .cons rfl (.cons rfl (.cons rfl (.cons rfl (.cons rfl (.nil _)))))
    · exact ⟨Nat.zero_le _, rfl, fun j hj => absurd hj (Nat.not_lt_zero _), been_first xs, L2, Nat.le_refl _, b3_0⟩
    · rintro ⟨k, bs⟩ wl0 ⟨hk, hb, hz, hd, Ll0, zl0, f0_0⟩
      refine WC.seq ?_
      refine WC.region ?_
      refine W.any (.lss rfl rfl) rfl rfl rfl ?_
      refine W.nil ?_
      refine E.thenN ?_
      refine WC.seq ?_
      by_cases c1 : ((k : Nat) : Int) < ((n : Nat) : Int)
      · refine WC.condY rfl (decide_eq_true c1) ?_
        refine WC.skip ?_
        refine E.thenN ?_
        refine WC.seq ?_
        refine WC.block ?_
        refine WC.seq ?_
        refine WC.region ?_
        refine W.any (.move rfl) rfl rfl rfl ?_
        refine W.any (.idxS (k) Try.underlying82 sz70 rfl rfl (hV.isSome edgeV_row (by omega)) (rfl) (by omega)) rfl rfl rfl ?_
        refine W.rd (.vload ag70 rfl (hV.le Ll0) edgeV_row (getS xs noEdge (by first | omega | (simp only [List.length_cons, List.length_nil]; omega)))) rfl rfl rfl ?_
        refine W.ef rfl rfl rfl ?_
        refine Ef.allocA z70 ?_
        intro g6_3 w6_3 hg6_3 b6_3 h6_3
        have L3 := Ll0.trans h6_3
        have b6_3 : Blk w6_3 g6_3 70 (edgeV noEdge).toArray := b6_3
        refine W.any (.assign rfl) rfl rfl rfl ?_
        refine W.ef0 rfl rfl ?_
        refine Ef.storeAll sz70 (by rfl) rfl rfl b6_3 (by rfl) (edgeV_row.one (xs.getD k noEdge)) ?_
        intro w6_5 b6_5 h6_5
        have b6_5 : Blk w6_5 g6_3 70 (edgeV (xs.getD k noEdge)).toArray := b6_5
        have L4 : Le w w6_5 := L3.then_ h6_5 (fun q hq => by cases hq; exact Nat.le_trans Ll0.size hg6_3)
        refine W.nil ?_
        refine E.thenN ?_
        refine WC.seq ?_
        refine WC.seq ?_
        refine WC.draw [0, 1, 2, 3, 4, 5, 6, 7, 8, 9, 10, 11, 12, 13, 14, 15, 16, 17, 18, 19, 20, 21, 22, 23] mixed (by kernel_rfl) ?_
        intro w7 d7
        have L5 := L4.trans d7
        have f6 := (b6_5.le d7)
        refine G.rd rfl rfl (.loadAll ag70 (by rfl) rfl f6) rfl rfl rfl ?_
        refine G.ef rfl rfl rfl rfl rfl ?_
        refine Ef.call go103 rfl rfl (edge_ok (xs.getD k noEdge) w7) ?_
        rintro _ w7_1 ⟨rfl, h7_1⟩
        refine ⟨_, rfl, ?_⟩
        refine ⟨fun _ => h7_1, ?_⟩
        have L7 := L5.trans h7_1
        refine G.any rfl rfl (.not rfl) rfl rfl rfl ?_
        by_cases q7_3 : (edgeOk (xs.getD k noEdge)) = true
        · refine G.any rfl rfl (.dec (.move rfl) (congrArg not (q7_3))) rfl rfl rfl ?_
          refine G.anyg rfl rfl (.move rfl) rfl rfl rfl (rfl) rfl rfl ?_
          refine G.anyg rfl rfl (.gtr rfl rfl) rfl rfl rfl (rfl) rfl rfl ?_
          by_cases q7_6 : 0 < ((k : Nat) : Int)
          · refine G.anyg rfl rfl (.dec (.move rfl) (decide_eq_true q7_6)) rfl rfl rfl (rfl) rfl rfl ?_
            refine G.anyg rfl rfl (.move rfl) rfl rfl rfl (rfl) rfl rfl ?_
            refine G.anyg rfl rfl (.move rfl) rfl rfl rfl (rfl) rfl rfl ?_
            refine G.anyg rfl rfl (.sub rfl rfl (by omega)) rfl rfl rfl (rfl) rfl rfl ?_
            refine G.anyg rfl rfl (.idxS ((k - 1)) Try.underlying82 sz70 rfl rfl (hV.isSome edgeV_row (by omega)) (by omega) (by omega)) rfl rfl rfl (rfl) rfl rfl ?_
            refine G.anyg rfl rfl (.vfield fa70_1 (hV.isSome edgeV_row (by omega)) rfl) rfl rfl rfl (rfl) rfl rfl ?_
            refine G.rdg rfl rfl (.vcell (j := (k - 1)) (o := 1) (v := .int .i64 ((xs.getD (k - 1) noEdge).t)) na3 rfl (hV.le L7) edgeV_row (getS xs noEdge (by first | omega | (simp only [List.length_cons, List.length_nil]; omega))) rfl) rfl rfl rfl (rfl) rfl rfl ?_
            refine G.anyg rfl rfl (.field0 fa70_0 rfl) rfl rfl rfl (rfl) rfl rfl ?_
            have f8 := (f6.le h7_1)
            refine G.rdg rfl rfl (.loadB (v := .int .i64 ((xs.getD k noEdge).f)) na3 rfl f8 rfl) rfl rfl rfl (rfl) rfl rfl ?_
            refine G.anyg rfl rfl (.neq rfl rfl) rfl rfl rfl (rfl) rfl rfl ?_
            refine G.anyg rfl rfl (.pickT rfl rfl rfl) rfl rfl rfl (rfl) rfl rfl ?_
            refine G.any rfl rfl (.pickF rfl rfl rfl) rfl rfl rfl ?_
            by_cases q7_18 : ((xs.getD (k - 1) noEdge).t) ≠ ((xs.getD k noEdge).f)
            · refine G.any rfl rfl (.dec (.move rfl) (decide_eq_true q7_18)) rfl rfl rfl ?_
              refine G.skip rfl rfl rfl rfl (rfl) rfl rfl ?_
              refine G.skip rfl rfl rfl rfl (rfl) rfl rfl ?_
              refine G.skip rfl rfl rfl rfl (rfl) rfl rfl ?_
              refine G.skip rfl rfl rfl rfl (rfl) rfl rfl ?_
              refine G.any rfl rfl (.pickT rfl rfl rfl) rfl rfl rfl ?_
              refine G.nil ?_
              refine E.thenN ?_
              refine WC.condT rfl ?_
              refine WC.seq ?_
              refine WC.region ?_
              refine W.any (.assign rfl) rfl rfl rfl ?_
              refine W.nil ?_
              refine E.thenN ?_
              refine WC.ret ?_
              refine E.thenR ?_
              refine E.blkR ?_
              refine E.thenR ?_
              refine E.thenR ?_
              refine E.blkR ?_
              refine E.thenR ?_
              refine E.retG1 rfl rfl ?_
              exact ⟨congrArg (fun b => Ending.returned (Value.bool b)) (decide_eq_false (fun hr => by have hr := hr.2 k (by omega); first | exact absurd hr.1 (by assumption) | exact way_fail hz hd (by assumption) hr | (have := hr.2.1; omega))).symm, L7⟩
            · refine G.any rfl rfl (.dec (.move rfl) (decide_eq_false q7_18)) rfl rfl rfl ?_
              refine G.anyg rfl rfl (.field0 fa70_1 rfl) rfl rfl rfl (rfl) rfl rfl ?_
              refine G.rdg rfl rfl (.loadB (v := .int .i64 ((xs.getD k noEdge).t)) na3 rfl f8 rfl) rfl rfl rfl (rfl) rfl rfl ?_
              have hok := edgeOk_T (show edgeOk (xs.getD k noEdge) = true by assumption)
              refine G.anyg rfl rfl (.idxA1 (((xs.getD k noEdge).t).toNat) Try.underlying169 sz4 rfl rfl (by omega) (by omega)) rfl rfl rfl (rfl) rfl rfl ?_
              have f9 := (((f0_0.le h6_3).ch h6_5 (fun h => (show g6_3 ≠ g3_0 from by have := f0_0.lt; omega) (Option.some.inj h))).le (d7.trans h7_1))
              refine G.rdg rfl rfl (.loadB na4 rfl f9 (getA bs false (by omega))) rfl rfl rfl (rfl) rfl rfl ?_
              refine G.any rfl rfl (.pickF rfl rfl rfl) rfl rfl rfl ?_
              refine G.nil ?_
              refine E.thenN ?_
              by_cases c2 : ((bs).getD (((xs.getD k noEdge).t).toNat) false) = true
              · refine WC.condY rfl (c2) ?_
                refine WC.seq ?_
                refine WC.region ?_
                refine W.any (.assign rfl) rfl rfl rfl ?_
                refine W.nil ?_
                refine E.thenN ?_
                refine WC.ret ?_
                refine E.thenR ?_
                refine E.blkR ?_
                refine E.thenR ?_
                refine E.thenR ?_
                refine E.blkR ?_
                refine E.thenR ?_
                refine E.retG1 rfl rfl ?_
                exact ⟨congrArg (fun b => Ending.returned (Value.bool b)) (decide_eq_false (fun hr => by have hr := hr.2 k (by omega); first | exact absurd hr.1 (by assumption) | exact way_fail hz hd (by assumption) hr | (have := hr.2.1; omega))).symm, L7⟩
              · refine WC.condN rfl ((Bool.eq_false_iff.2 c2)) ?_
                refine WC.skip ?_
                refine E.thenN ?_
                refine WC.drawS (fun w9 w' => Le w w' ∧ Blk w' g6_3 70 (edgeV (xs.getD k noEdge)).toArray) [0, 1, 2, 3, 4, 5, 6, 7] mixed (by kernel_rfl) ?_
                intro w9 d9
                have L10 := L7.trans d9
                have f11 := (f8.le d9)
                refine ⟨⟨L10, f11⟩, ?_⟩
                have hok := edgeOk_T (show edgeOk (xs.getD k noEdge) = true by assumption)
                refine GS.any rfl rfl (.field0 fa70_0 rfl) rfl rfl rfl ?_
                refine GS.rd rfl rfl (fun w' hs => .loadB (v := .int .i64 ((xs.getD k noEdge).f)) na3 rfl hs.2 rfl) rfl rfl rfl ?_
                refine GS.any rfl rfl (.field0 fa70_1 rfl) rfl rfl rfl ?_
                refine GS.rd rfl rfl (fun w' hs => .loadB (v := .int .i64 ((xs.getD k noEdge).t)) na3 rfl hs.2 rfl) rfl rfl rfl ?_
                refine GS.any rfl rfl (.idxA1 (((xs.getD k noEdge).f).toNat) Try.underlying169 sz4 rfl rfl (by omega) (by omega)) rfl rfl rfl ?_
                have f12 := (f9.le d9)
                refine GS.ef0 rfl rfl rfl rfl ?_
                refine Ef.store sz4 rfl rfl f12 (by simp only [List.size_toArray, List.length_map, List.length_set]; omega) rfl ?_
                intro w9_5 b9_5 h9_5
                have b9_5 : Blk w9_5 g3_0 169 ((bs.set (((xs.getD k noEdge).f).toNat) true).map Value.bool).toArray := bset b9_5
                have L13 : Le w w9_5 := L10.then_ h9_5 (fun q hq => by cases hq; exact Nat.le_trans L1.size hg3_0)
                have f14 := (f11.ch h9_5 (fun h => (show g3_0 ≠ g6_3 from by have := f0_0.lt; omega) (Option.some.inj h)))
                refine ⟨⟨L13, f14⟩, ?_⟩
                refine GS.any rfl rfl (.idxA1 (((xs.getD k noEdge).t).toNat) Try.underlying169 sz4 rfl rfl (by omega) (by omega)) rfl rfl rfl ?_
                refine GS.ef0 rfl rfl rfl rfl ?_
                refine Ef.store sz4 rfl rfl b9_5 (by simp only [List.size_toArray, List.length_map, List.length_set]; omega) rfl ?_
                intro w9_7 b9_7 h9_7
                have b9_7 : Blk w9_7 g3_0 169 (((bs.set (((xs.getD k noEdge).f).toNat) true).set (((xs.getD k noEdge).t).toNat) true).map Value.bool).toArray := bset b9_7
                have L15 : Le w w9_7 := L13.then_ h9_7 (fun q hq => by cases hq; exact Nat.le_trans L1.size hg3_0)
                have f16 := (f14.ch h9_7 (fun h => (show g3_0 ≠ g6_3 from by have := f0_0.lt; omega) (Option.some.inj h)))
                refine ⟨⟨L15, f16⟩, ?_⟩
                refine GS.nil ?_
                refine E.blkN ?_
                refine E.thenN ?_
                refine WC.region ?_
                refine W.any (.add rfl rfl (by omega)) rfl rfl rfl ?_
                refine W.any (.move rfl) rfl rfl rfl ?_
                refine W.nil ?_
                refine E.again (k + 1, ((bs.set (xs.getD k noEdge).f.toNat true).set (xs.getD k noEdge).t.toNat true)) (.cons rfl (.cons rfl (.cons rfl (.cons rfl (.cons rfl (.nil _)))))) ?_ ?_
                · exact ⟨by omega, by simp [hb], way_next hz (by assumption) (by intro h0; omega) hd (by assumption), been_next hb (by assumption) hd, L15, by have := zl0; have := h6_3.size; have := h6_5.size; have := d7.size; have := h7_1.size; have := d9.size; have := h9_5.size; have := h9_7.size; omega, b9_7⟩
                · first | omega | (simp only []; omega)
          · refine G.anyg rfl rfl (.dec (.move rfl) (decide_eq_false q7_6)) rfl rfl rfl (rfl) rfl rfl ?_
            refine G.skip rfl rfl rfl rfl (rfl) rfl rfl ?_
            refine G.skip rfl rfl rfl rfl (rfl) rfl rfl ?_
            refine G.skip rfl rfl rfl rfl (rfl) rfl rfl ?_
            refine G.skip rfl rfl rfl rfl (rfl) rfl rfl ?_
            refine G.skip rfl rfl rfl rfl (rfl) rfl rfl ?_
            refine G.skip rfl rfl rfl rfl (rfl) rfl rfl ?_
            refine G.skip rfl rfl rfl rfl (rfl) rfl rfl ?_
            refine G.skip rfl rfl rfl rfl (rfl) rfl rfl ?_
            refine G.skip rfl rfl rfl rfl (rfl) rfl rfl ?_
            refine G.anyg rfl rfl (.pickF rfl rfl rfl) rfl rfl rfl (rfl) rfl rfl ?_
            refine G.any rfl rfl (.pickF rfl rfl rfl) rfl rfl rfl ?_
            refine G.any rfl rfl (.move rfl) rfl rfl rfl ?_
            refine G.anyg rfl rfl (.field0 fa70_1 rfl) rfl rfl rfl (rfl) rfl rfl ?_
            have f17 := (f6.le h7_1)
            refine G.rdg rfl rfl (.loadB (v := .int .i64 ((xs.getD k noEdge).t)) na3 rfl f17 rfl) rfl rfl rfl (rfl) rfl rfl ?_
            have hok := edgeOk_T (show edgeOk (xs.getD k noEdge) = true by assumption)
            refine G.anyg rfl rfl (.idxA1 (((xs.getD k noEdge).t).toNat) Try.underlying169 sz4 rfl rfl (by omega) (by omega)) rfl rfl rfl (rfl) rfl rfl ?_
            have f18 := (((f0_0.le h6_3).ch h6_5 (fun h => (show g6_3 ≠ g3_0 from by have := f0_0.lt; omega) (Option.some.inj h))).le (d7.trans h7_1))
            refine G.rdg rfl rfl (.loadB na4 rfl f18 (getA bs false (by omega))) rfl rfl rfl (rfl) rfl rfl ?_
            refine G.any rfl rfl (.pickF rfl rfl rfl) rfl rfl rfl ?_
            refine G.nil ?_
            refine E.thenN ?_
            by_cases c2 : ((bs).getD (((xs.getD k noEdge).t).toNat) false) = true
            · refine WC.condY rfl (c2) ?_
              refine WC.seq ?_
              refine WC.region ?_
              refine W.any (.assign rfl) rfl rfl rfl ?_
              refine W.nil ?_
              refine E.thenN ?_
              refine WC.ret ?_
              refine E.thenR ?_
              refine E.blkR ?_
              refine E.thenR ?_
              refine E.thenR ?_
              refine E.blkR ?_
              refine E.thenR ?_
              refine E.retG1 rfl rfl ?_
              exact ⟨congrArg (fun b => Ending.returned (Value.bool b)) (decide_eq_false (fun hr => by have hr := hr.2 k (by omega); first | exact absurd hr.1 (by assumption) | exact way_fail hz hd (by assumption) hr | (have := hr.2.1; omega))).symm, L7⟩
            · refine WC.condN rfl ((Bool.eq_false_iff.2 c2)) ?_
              refine WC.skip ?_
              refine E.thenN ?_
              refine WC.drawS (fun w9 w' => Le w w' ∧ Blk w' g6_3 70 (edgeV (xs.getD k noEdge)).toArray) [0, 1, 2, 3, 4, 5, 6, 7] mixed (by kernel_rfl) ?_
              intro w9 d9
              have L19 := L7.trans d9
              have f20 := (f17.le d9)
              refine ⟨⟨L19, f20⟩, ?_⟩
              have hok := edgeOk_T (show edgeOk (xs.getD k noEdge) = true by assumption)
              refine GS.any rfl rfl (.field0 fa70_0 rfl) rfl rfl rfl ?_
              refine GS.rd rfl rfl (fun w' hs => .loadB (v := .int .i64 ((xs.getD k noEdge).f)) na3 rfl hs.2 rfl) rfl rfl rfl ?_
              refine GS.any rfl rfl (.field0 fa70_1 rfl) rfl rfl rfl ?_
              refine GS.rd rfl rfl (fun w' hs => .loadB (v := .int .i64 ((xs.getD k noEdge).t)) na3 rfl hs.2 rfl) rfl rfl rfl ?_
              refine GS.any rfl rfl (.idxA1 (((xs.getD k noEdge).f).toNat) Try.underlying169 sz4 rfl rfl (by omega) (by omega)) rfl rfl rfl ?_
              have f21 := (f18.le d9)
              refine GS.ef0 rfl rfl rfl rfl ?_
              refine Ef.store sz4 rfl rfl f21 (by simp only [List.size_toArray, List.length_map, List.length_set]; omega) rfl ?_
              intro w9_5_1 b9_5_1 h9_5_1
              have b9_5_1 : Blk w9_5_1 g3_0 169 ((bs.set (((xs.getD k noEdge).f).toNat) true).map Value.bool).toArray := bset b9_5_1
              have L22 : Le w w9_5_1 := L19.then_ h9_5_1 (fun q hq => by cases hq; exact Nat.le_trans L1.size hg3_0)
              have f23 := (f20.ch h9_5_1 (fun h => (show g3_0 ≠ g6_3 from by have := f0_0.lt; omega) (Option.some.inj h)))
              refine ⟨⟨L22, f23⟩, ?_⟩
              refine GS.any rfl rfl (.idxA1 (((xs.getD k noEdge).t).toNat) Try.underlying169 sz4 rfl rfl (by omega) (by omega)) rfl rfl rfl ?_
              refine GS.ef0 rfl rfl rfl rfl ?_
              refine Ef.store sz4 rfl rfl b9_5_1 (by simp only [List.size_toArray, List.length_map, List.length_set]; omega) rfl ?_
              intro w9_7_1 b9_7_1 h9_7_1
              have b9_7_1 : Blk w9_7_1 g3_0 169 (((bs.set (((xs.getD k noEdge).f).toNat) true).set (((xs.getD k noEdge).t).toNat) true).map Value.bool).toArray := bset b9_7_1
              have L24 : Le w w9_7_1 := L22.then_ h9_7_1 (fun q hq => by cases hq; exact Nat.le_trans L1.size hg3_0)
              have f25 := (f23.ch h9_7_1 (fun h => (show g3_0 ≠ g6_3 from by have := f0_0.lt; omega) (Option.some.inj h)))
              refine ⟨⟨L24, f25⟩, ?_⟩
              refine GS.nil ?_
              refine E.blkN ?_
              refine E.thenN ?_
              refine WC.region ?_
              refine W.any (.add rfl rfl (by omega)) rfl rfl rfl ?_
              refine W.any (.move rfl) rfl rfl rfl ?_
              refine W.nil ?_
              refine E.again (k + 1, ((bs.set (xs.getD k noEdge).f.toNat true).set (xs.getD k noEdge).t.toNat true)) (.cons rfl (.cons rfl (.cons rfl (.cons rfl (.cons rfl (.nil _)))))) ?_ ?_
              · exact ⟨by omega, by simp [hb], way_next hz (by assumption) (by intro h0; omega) hd (by assumption), been_next hb (by assumption) hd, L24, by have := zl0; have := h6_3.size; have := h6_5.size; have := d7.size; have := h7_1.size; have := d9.size; have := h9_5_1.size; have := h9_7_1.size; omega, b9_7_1⟩
              · first | omega | (simp only []; omega)
        · refine G.any rfl rfl (.dec (.move rfl) (congrArg not ((Bool.eq_false_iff.2 q7_3)))) rfl rfl rfl ?_
          refine G.skip rfl rfl rfl rfl (rfl) rfl rfl ?_
          refine G.skip rfl rfl rfl rfl (rfl) rfl rfl ?_
          refine G.skip rfl rfl rfl rfl (rfl) rfl rfl ?_
          refine G.skipu rfl rfl rfl rfl rfl rfl ?_
          refine G.skipu rfl rfl rfl rfl rfl rfl ?_
          refine G.skipu rfl rfl rfl rfl rfl rfl ?_
          refine G.skipu rfl rfl rfl rfl rfl rfl ?_
          refine G.skipu rfl rfl rfl rfl rfl rfl ?_
          refine G.skipu rfl rfl rfl rfl rfl rfl ?_
          refine G.skipu rfl rfl rfl rfl rfl rfl ?_
          refine G.skipu rfl rfl rfl rfl rfl rfl ?_
          refine G.skipu rfl rfl rfl rfl rfl rfl ?_
          refine G.skip rfl rfl rfl rfl (rfl) rfl rfl ?_
          refine G.any rfl rfl (.pickT rfl rfl rfl) rfl rfl rfl ?_
          refine G.any rfl rfl (.move rfl) rfl rfl rfl ?_
          refine G.skip rfl rfl rfl rfl (rfl) rfl rfl ?_
          refine G.skip rfl rfl rfl rfl (rfl) rfl rfl ?_
          refine G.skip rfl rfl rfl rfl (rfl) rfl rfl ?_
          refine G.skip rfl rfl rfl rfl (rfl) rfl rfl ?_
          refine G.any rfl rfl (.pickT rfl rfl rfl) rfl rfl rfl ?_
          refine G.nil ?_
          refine E.thenN ?_
          refine WC.condT rfl ?_
          refine WC.seq ?_
          refine WC.region ?_
          refine W.any (.assign rfl) rfl rfl rfl ?_
          refine W.nil ?_
          refine E.thenN ?_
          refine WC.ret ?_
          refine E.thenR ?_
          refine E.blkR ?_
          refine E.thenR ?_
          refine E.thenR ?_
          refine E.blkR ?_
          refine E.thenR ?_
          refine E.retG1 rfl rfl ?_
          exact ⟨congrArg (fun b => Ending.returned (Value.bool b)) (decide_eq_false (fun hr => by have hr := hr.2 k (by omega); first | exact absurd hr.1 (by assumption) | exact way_fail hz hd (by assumption) hr | (have := hr.2.1; omega))).symm, L7⟩
      · refine WC.condN rfl (decide_eq_false c1) ?_
        refine WC.exit ?_
        refine E.thenX ?_
        refine E.thenX ?_
        refine E.blkH ?_
        refine E.thenN ?_
        refine WC.seq ?_
        refine WC.region ?_
        refine W.any (.assign rfl) rfl rfl rfl ?_
        refine W.nil ?_
        refine E.thenN ?_
        refine WC.ret ?_
        refine E.retG1 rfl rfl ?_
        exact ⟨congrArg (fun b => Ending.returned (Value.bool b)) (decide_eq_true ⟨by have := inB_T (by assumption : inB (n : Int) 1 8 = true); omega, fun j hj => hz j (by omega)⟩).symm, Ll0⟩
  · refine WC.condY rfl (congrArg not ((Bool.eq_false_iff.2 c0))) ?_
    refine WC.seq ?_
    refine WC.region ?_
    refine W.any (.assign rfl) rfl rfl rfl ?_
    refine W.nil ?_
    refine E.thenN ?_
    refine WC.ret ?_
    refine E.thenR ?_
    refine E.retG1 rfl rfl ?_
    exact ⟨congrArg (fun b => Ending.returned (Value.bool b)) (decide_eq_false (fun hr => by have := inB_F (Bool.eq_false_iff.2 (by assumption : ¬ inB (n : Int) 1 8 = true)); have := hr.1; omega)).symm, L1⟩
end Go.Proofs.Ytnmcbdbpafhinaa

namespace Go.Proofs.Ytnmcbdbpafhinaa
open Go Go.Sx Go.Hsp Go.Num Go.Osp Go.Gsp
set_option maxRecDepth 20000
set_option linter.unusedSimpArgs false
set_option linter.unusedVariables false
theorem cost_ok (a x : Int) {A : Option Addr} {n c : Nat} {xs : List Gsp.Edge} (w : World) (hV : Vec w edgeV 9 A n xs) (hn : n ≤ 1000000) : Calls Try.prog 39 #[.slice A n c, .int .i64 (a), .int .i64 (x)] w fun r w' => ∃ A1 c1 A2 c2, r = .returned (.tuple #[.slice A1 (costG xs a x).1.length c1, .slice A2 (costG xs a x).2.1.length c2, .int .i64 (costG xs a x).2.2]) ∧ OVec w' w.heap.size 3 iv 1 A1 (costG xs a x).1.length c1 (costG xs a x).1 ∧ OVec w' w.heap.size 3 iv 1 A2 (costG xs a x).2.1.length c2 (costG xs a x).2.1 ∧ Le w w' := by
  have hl := hV.1
  refine enter Try.func39 rfl rfl ?_
  have L0 := Le.refl w
  refine WC.seq ?_
  refine WC.region ?_
  refine W.any (.assign rfl) rfl rfl rfl ?_
  refine W.any (.assign rfl) rfl rfl rfl ?_
  refine W.any (.assign rfl) rfl rfl rfl ?_
  refine W.nil ?_
  refine E.thenN ?_
  refine WC.seq ?_
  refine WC.seq ?_
  refine WC.region ?_
  refine W.any (.move rfl) rfl rfl rfl ?_
  refine W.ef rfl rfl rfl ?_
  refine Ef.call go72 rfl rfl (gway_ok w (hV.le L0) (by omega)) ?_
  rintro _ w1_1 ⟨rfl, h1_1⟩
  refine ⟨_, rfl, ?_⟩
  have L1 := L0.trans h1_1
  refine W.any (.not rfl) rfl rfl rfl ?_
  refine W.nil ?_
  refine E.thenN ?_
  by_cases c0 : (wayG xs) = true
  · refine WC.condN rfl (congrArg not (c0)) ?_
    refine WC.skip ?_
    refine E.thenN ?_
    refine WC.seq ?_
    refine WC.seq ?_
    refine WC.region ?_
    refine W.any (.move rfl) rfl rfl rfl ?_
    refine W.ef rfl rfl rfl ?_
    refine Ef.call go73 rfl rfl (gin_ok a 1 1125899906842624 w1_1) ?_
    rintro _ w3_1 ⟨rfl, h3_1⟩
    refine ⟨_, rfl, ?_⟩
    have L2 := L1.trans h3_1
    refine W.any (.not rfl) rfl rfl rfl ?_
    by_cases q3_3 : (inB a 1 1125899906842624) = true
    · refine W.any (.dec (.move rfl) (congrArg not (q3_3))) rfl rfl rfl ?_
      refine W.rdg (Any.rd (.move rfl) _) rfl rfl rfl (rfl) rfl rfl ?_
      refine W.efg rfl rfl rfl (rfl) rfl rfl ?_
      refine Ef.call go73 rfl rfl (gin_ok x 1 1048576 w3_1) ?_
      rintro _ w3_5 ⟨rfl, h3_5⟩
      refine ⟨_, rfl, ?_⟩
      have L3 := L2.trans h3_5
      refine W.rdg (Any.rd (.not rfl) _) rfl rfl rfl (rfl) rfl rfl ?_
      refine W.any (.pickF rfl rfl rfl) rfl rfl rfl ?_
      refine W.nil ?_
      refine E.thenN ?_
      by_cases c1 : (inB x 1 1048576) = true
      · refine WC.condN rfl (congrArg not (c1)) ?_
        have hwl := wayG_len (by assumption : wayG xs = true)
        have ha1 := inB_T (by assumption : inB a 1 1125899906842624 = true)
        have hx1 := inB_T (by assumption : inB x 1 1048576 = true)
        refine WC.skip ?_
        refine E.thenN ?_
        refine WC.cut (ι := Nat × Nat) (fun ⟨g1, g2⟩ => [(0, .slice A n c), (1, .int .i64 (a)), (2, .int .i64 (x)), (9, .slice (some ⟨g1, 0, none⟩) n n), (10, .slice (some ⟨g2, 0, none⟩) n n)]) (fun ⟨g1, g2⟩ wc6 => Le w wc6 ∧ w3_5.heap.size ≤ wc6.heap.size ∧ OVec wc6 w3_5.heap.size 3 iv 1 (some ⟨g1, 0, none⟩) n n (List.replicate n 0) ∧ OVec wc6 w3_5.heap.size 3 iv 1 (some ⟨g2, 0, none⟩) n n (List.replicate n 0) ∧ Apart (some ⟨g1, 0, none⟩) n (some ⟨g2, 0, none⟩) n) ?_ ?_
        · refine WC.drawT (fun o => (app o [0, 1, 3, 4] (.br (app o [2, 6, 5, 7] .nil) (app o [5, 2, 6, 7] .nil)))) mixed (by kernel_rfl) ?_
          intro w5 d5
          have L4 := L3.trans d5
          refine GT.app ?_
          refine G.any rfl rfl (.move rfl) rfl rfl rfl ?_
          refine G.rd rfl rfl (.len Try.underlying82 rfl) rfl rfl rfl ?_
          refine G.any rfl rfl (.move rfl) rfl rfl rfl ?_
          refine G.rd rfl rfl (.len Try.underlying82 rfl) rfl rfl rfl ?_
          refine G.nil ?_
          refine GT.br ?_ ?_
          · refine GT.last ?_
            refine G.ef rfl rfl rfl rfl rfl ?_
            refine Ef.vmake 0 n Try.underlying41 el3 iv_row rfl rfl (rfl) rfl (rfl) (by omega) (by unfold maxLen; omega) ?_
            intro g5_2 w5_2 hg5_2 o5_2 h5_2
            refine ⟨fun _ => h5_2, ?_⟩
            have L5 := L4.trans h5_2
            refine G.any rfl rfl (.assign rfl) rfl rfl rfl ?_
            refine G.ef rfl rfl rfl rfl rfl ?_
            refine Ef.vmake 0 n Try.underlying41 el3 iv_row rfl rfl (rfl) rfl (rfl) (by omega) (by unfold maxLen; omega) ?_
            intro g5_5 w5_5 hg5_5 o5_5 h5_5
            refine ⟨fun _ => h5_5, ?_⟩
            have L6 := L5.trans h5_5
            refine G.any rfl rfl (.assign rfl) rfl rfl rfl ?_
            refine G.nil ?_
            have f7 := (o5_2.le h5_5)
            refine E.meet (g5_2, g5_5) (.cons rfl (.cons rfl (.cons rfl (.cons rfl (.cons rfl (.nil _)))))) ?_
            exact ⟨L6, by have := d5.size; have := h5_2.size; have := h5_5.size; omega, (f7.mono (by have := d5.size; omega)), (o5_5.mono (by have := d5.size; have := h5_2.size; omega)), (fun q h1 h2 => by have := (o5_2.row h1).2; have := (o5_5.row h2).1; omega)⟩
          · refine GT.last ?_
            refine G.ef rfl rfl rfl rfl rfl ?_
            refine Ef.vmake 0 n Try.underlying41 el3 iv_row rfl rfl (rfl) rfl (rfl) (by omega) (by unfold maxLen; omega) ?_
            intro g5_5_1 w5_5_1 hg5_5_1 o5_5_1 h5_5_1
            refine ⟨fun _ => h5_5_1, ?_⟩
            have L8 := L4.trans h5_5_1
            refine G.ef rfl rfl rfl rfl rfl ?_
            refine Ef.vmake 0 n Try.underlying41 el3 iv_row rfl rfl (rfl) rfl (rfl) (by omega) (by unfold maxLen; omega) ?_
            intro g5_2_1 w5_2_1 hg5_2_1 o5_2_1 h5_2_1
            refine ⟨fun _ => h5_2_1, ?_⟩
            have L9 := L8.trans h5_2_1
            refine G.any rfl rfl (.assign rfl) rfl rfl rfl ?_
            refine G.any rfl rfl (.assign rfl) rfl rfl rfl ?_
            refine G.nil ?_
            have f10 := (o5_5_1.le h5_2_1)
            refine E.meet (g5_2_1, g5_5_1) (.cons rfl (.cons rfl (.cons rfl (.cons rfl (.cons rfl (.nil _)))))) ?_
            exact ⟨L9, by have := d5.size; have := h5_5_1.size; have := h5_2_1.size; omega, (o5_2_1.mono (by have := d5.size; have := h5_5_1.size; omega)), (f10.mono (by have := d5.size; omega)), (Apart.symm (fun q h1 h2 => by have := (o5_5_1.row h1).2; have := (o5_2_1.row h2).1; omega))⟩
        · rintro ⟨g1, g2⟩ wc6 ⟨Lc1, sc1, o1_9, o1_10, ap1_9_10⟩
          have lc1_2 : w3_5.heap.size ≤ wc6.heap.size := by have := sc1; omega
          have lc1_3 : w3_5.heap.size ≤ wc6.heap.size := by have := sc1; omega
          refine WC.seq ?_
          refine WC.seq ?_
          refine WC.region ?_
          refine W.any (.move rfl) rfl rfl rfl ?_
          refine W.rd (.len Try.underlying82 rfl) rfl rfl rfl ?_
          refine W.any (.sub rfl rfl (by omega)) rfl rfl rfl ?_
          refine W.any (.assign rfl) rfl rfl rfl ?_
          refine W.nil ?_
          refine E.thenN ?_
          refine WC.block ?_
          refine WC.loop (ι := Nat × Int × Int × (Option (Int × Int)) × (List (Int × Int))) (fun ⟨j, am, ex, nx, l⟩ => [(0, .slice A n c), (1, .int .i64 (am)), (2, .int .i64 (ex)), (9, .slice (some ⟨g1, 0, none⟩) n n), (10, .slice (some ⟨g2, 0, none⟩) n n), (11, .int .i64 (((j : Nat) : Int) - 1))]) (fun ⟨j, am, ex, nx, l⟩ wl0 => (j ≤ n) ∧ (l.length = n - j) ∧ (costF a x (xs.drop j) = .ok (nx, l)) ∧ (0 < j → nx = some (am, ex) ∧ 0 ≤ am ∧ am ≤ 1125899906842624 ∧ 0 ≤ ex ∧ ex ≤ 2097152) ∧ Le w wl0 ∧ wc6.heap.size ≤ wl0.heap.size ∧ OVec wl0 w3_5.heap.size 3 iv 1 (some ⟨g1, 0, none⟩) n n (List.replicate j 0 ++ l.map Prod.fst) ∧ OVec wl0 w3_5.heap.size 3 iv 1 (some ⟨g2, 0, none⟩) n n (List.replicate j 0 ++ l.map Prod.snd)) (fun ⟨j, am, ex, nx, l⟩ => j) (n, a, x, some (a, x), []) ?_ ?_ ?_
          · exact .cons rfl (.cons rfl (.cons rfl (.cons rfl (.cons rfl (.cons rfl (.nil _))))))
          · exact ⟨Nat.le_refl _, by simp, by rw [List.drop_of_length_le (by omega)]; rfl, fun _ => ⟨rfl, by omega, by omega, by omega, by omega⟩, Lc1, Nat.le_refl _, (o1_9).cast rfl (by simp), (o1_10).cast rfl (by simp)⟩
          · rintro ⟨j, am, ex, nx, l⟩ wl0 ⟨hj, hll, hF, hnx, Ll0, zl0, f0_0, f0_1⟩
            have lb0_2 : w3_5.heap.size ≤ wl0.heap.size := Nat.le_trans lc1_3 (by omega)
            have lb0_3 : w3_5.heap.size ≤ wl0.heap.size := Nat.le_trans lc1_3 (by omega)
            refine WC.seq ?_
            refine WC.seq ?_
            refine WC.region ?_
            refine W.any (.move rfl) rfl rfl rfl ?_
            refine W.any (.geq rfl rfl) rfl rfl rfl ?_
            refine W.nil ?_
            refine E.thenN ?_
            by_cases c2 : 0 ≤ (((j : Nat) : Int) - 1)
            · refine WC.condY rfl (decide_eq_true c2) ?_
              obtain ⟨rfl, ham0, ham1, hex0, hex1⟩ := hnx (by omega)
              have hok := edgeOk_T (wayG_at (by assumption : wayG xs = true) (i := j - 1) (by omega)).1
              have hpk := polOk_T hok.2.2.2.2.2
              have hpI := polI_ok hok.2.2.2.2.2
              refine WC.skip ?_
              refine E.thenN ?_
              refine WC.seq ?_
              refine WC.block ?_
              refine WC.seq ?_
              refine WC.region ?_
              refine W.any (.move rfl) rfl rfl rfl ?_
              refine W.any (.move rfl) rfl rfl rfl ?_
              refine W.any (.idxS ((j - 1)) Try.underlying82 sz70 rfl rfl (hV.isSome edgeV_row (by omega)) (by omega) (by omega)) rfl rfl rfl ?_
              refine W.rd (.vload ag70 rfl (hV.le Ll0) edgeV_row (getS xs noEdge (by first | omega | (simp only [List.length_cons, List.length_nil]; omega)))) rfl rfl rfl ?_
              refine W.ef rfl rfl rfl ?_
              refine Ef.allocA z70 ?_
              intro g9_4 w9_4 hg9_4 b9_4 h9_4
              have L11 := Ll0.trans h9_4
              have b9_4 : Blk w9_4 g9_4 70 (edgeV noEdge).toArray := b9_4
              refine W.ef0 rfl rfl ?_
              refine Ef.storeAll sz70 (by rfl) rfl rfl b9_4 (by rfl) (edgeV_row.one (xs.getD (j - 1) noEdge)) ?_
              intro w9_5 b9_5 h9_5
              have b9_5 : Blk w9_5 g9_4 70 (edgeV (xs.getD (j - 1) noEdge)).toArray := b9_5
              have L12 : Le w w9_5 := L11.then_ h9_5 (fun q hq => by cases hq; exact Nat.le_trans Ll0.size hg9_4)
              refine W.nil ?_
              refine E.thenN ?_
              refine WC.seq ?_
              refine WC.block ?_
              refine WC.seq ?_
              refine WC.region ?_
              refine W.any (.move rfl) rfl rfl rfl ?_
              refine W.any (.field0 fa70_4 rfl) rfl rfl rfl ?_
              refine W.any (.field2 fa68_3 rfl) rfl rfl rfl ?_
              refine W.rd (.loadB (v := .int .i64 ((xs.getD (j - 1) noEdge).pol.l)) na3 rfl b9_5 rfl) rfl rfl rfl ?_
              refine W.any (.field0 fa70_4 rfl) rfl rfl rfl ?_
              refine W.any (.field2 fa68_4 rfl) rfl rfl rfl ?_
              refine W.rd (.loadB (v := .int .i64 ((xs.getD (j - 1) noEdge).pol.m)) na3 rfl b9_5 rfl) rfl rfl rfl ?_
              refine W.any (.field0 fa70_3 rfl) rfl rfl rfl ?_
              refine W.rd (.loadB (v := .int .i64 ((xs.getD (j - 1) noEdge).r)) na3 rfl b9_5 rfl) rfl rfl rfl ?_
              refine W.rd (.min2 rfl rfl) rfl rfl rfl ?_
              refine W.ef rfl rfl rfl ?_
              refine Ef.call go73 rfl rfl (gin_ok am ((xs.getD (j - 1) noEdge).pol.l) (min ((xs.getD (j - 1) noEdge).pol.m) ((xs.getD (j - 1) noEdge).r)) w9_5) ?_
              rintro _ w10_10 ⟨rfl, h10_10⟩
              refine ⟨_, rfl, ?_⟩
              have L13 := L12.trans h10_10
              refine W.any (.not rfl) rfl rfl rfl ?_
              refine W.any (.assign rfl) rfl rfl rfl ?_
              refine W.nil ?_
              refine E.thenN ?_
              by_cases c3 : (inB am ((xs.getD (j - 1) noEdge).pol.l) (min ((xs.getD (j - 1) noEdge).pol.m) ((xs.getD (j - 1) noEdge).r))) = true
              · refine WC.condN rfl (congrArg not (c3)) ?_
                refine WC.seq ?_
                refine WC.region ?_
                refine W.any (.move rfl) rfl rfl rfl ?_
                refine W.any (.gtr rfl rfl) rfl rfl rfl ?_
                refine W.any (.assign rfl) rfl rfl rfl ?_
                refine W.nil ?_
                refine E.thenN ?_
                by_cases c4 : 1048576 < ex
                · refine WC.condY rfl (decide_eq_true c4) ?_
                  refine WC.seq ?_
                  refine WC.region ?_
                  refine W.any (.assign rfl) rfl rfl rfl ?_
                  refine W.any (.assign rfl) rfl rfl rfl ?_
                  refine W.any (.assign rfl) rfl rfl rfl ?_
                  refine W.nil ?_
                  refine E.thenN ?_
                  refine WC.ret ?_
                  refine E.blkR ?_
                  refine E.thenR ?_
                  refine E.blkR ?_
                  refine E.thenR ?_
                  refine E.thenR ?_
                  refine E.blkR ?_
                  refine E.thenR ?_
                  refine E.retG3 rfl rfl rfl rfl ?_
                  have hc : costG xs a x = ([], [], 16) := costG_er (by assumption) (by assumption) (by assumption) (costF_late (by omega) (by omega) hF (by assumption) (by omega))
                  exact ⟨none, 0, none, 0, by rw [hc]; rfl, by rw [hc]; exact OVec.nil _ _ _ _ _ _, by rw [hc]; exact OVec.nil _ _ _ _ _ _, L13⟩
                · refine WC.condN rfl (decide_eq_false c4) ?_
                  refine WC.skip ?_
                  refine E.blkN ?_
                  refine E.thenN ?_
                  refine WC.seq ?_
                  refine WC.region ?_
                  refine W.any (.move rfl) rfl rfl rfl ?_
                  refine W.any (.move rfl) rfl rfl rfl ?_
                  refine W.any (.move rfl) rfl rfl rfl ?_
                  refine W.any (.move rfl) rfl rfl rfl ?_
                  refine W.any (.move rfl) rfl rfl rfl ?_
                  refine W.any (.move rfl) rfl rfl rfl ?_
                  refine W.any (.idxS ((j - 1)) Try.underlying41 sz3 rfl rfl (o1_9.vec.isSome iv_row (by omega)) (by omega) (by omega)) rfl rfl rfl ?_
                  have f14 := (((f0_0.le h9_4).ch h9_5 (fun q hq => by cases hq; exact (fun he => by have := (f0_0.row he).2; omega))).le h10_10)
                  refine W.ef0 rfl rfl ?_
                  refine Ef.vset (j := (j - 1)) (o := 0) am sz3 rfl (by omega) rfl f14 iv_row (getS (List.replicate j 0 ++ l.map Prod.fst) 0 (by simp; omega)) (by decide) rfl rfl ?_
                  intro w14_7 o14_7 h14_7
                  have L15 : Le w w14_7 := L13.then_ h14_7 (fun q hq => Nat.le_trans L3.size (f14.row hq).1)
                  have o16 := o14_7.cast (m' := n) (ys := (List.replicate (j - 1) 0 ++ am :: l.map Prod.fst)) (rfl) (rep_set _ _ _ (by omega))
                  refine W.any (.idxS ((j - 1)) Try.underlying41 sz3 rfl rfl (o1_10.vec.isSome iv_row (by omega)) (by omega) (by omega)) rfl rfl rfl ?_
                  have f17 := ((((f0_1.le h9_4).ch h9_5 (fun q hq => by cases hq; exact (fun he => by have := (f0_1.row he).2; omega))).le h10_10).ch h14_7 (ap1_9_10))
                  refine W.ef0 rfl rfl ?_
                  refine Ef.vset (j := (j - 1)) (o := 0) ex sz3 rfl (by omega) rfl f17 iv_row (getS (List.replicate j 0 ++ l.map Prod.snd) 0 (by simp; omega)) (by decide) rfl rfl ?_
                  intro w14_9 o14_9 h14_9
                  have L18 : Le w w14_9 := L15.then_ h14_9 (fun q hq => Nat.le_trans L3.size (f17.row hq).1)
                  have o19 := o14_9.cast (m' := n) (ys := (List.replicate (j - 1) 0 ++ ex :: l.map Prod.snd)) (rfl) (rep_set _ _ _ (by omega))
                  refine W.nil ?_
                  refine E.thenN ?_
                  refine WC.seq ?_
                  refine WC.region ?_
                  refine W.any (.field0 fa70_4 rfl) rfl rfl rfl ?_
                  have f20 := (((b9_5.le h10_10).ch h14_7 (fun he => by have := (f0_0.row he).2; omega)).ch h14_9 (fun he => by have := (f0_1.row he).2; omega))
                  refine W.rd (.bpart (polV ((xs.getD (j - 1) noEdge).pol)) ag68 rfl (by decide) rfl f20 rfl) rfl rfl rfl ?_
                  refine W.any (.move rfl) rfl rfl rfl ?_
                  refine W.ef rfl rfl rfl ?_
                  refine Ef.call go41 rfl rfl (hfee_ok ((xs.getD (j - 1) noEdge).pol) am hpI w14_9) ?_
                  rintro _ w15_3 ⟨rfl, h15_3⟩
                  refine ⟨_, rfl, ?_⟩
                  have L21 := L18.trans h15_3
                  refine W.any (.move rfl) rfl rfl rfl ?_
                  refine W.any (.extract (v := .int .i64 ((feeG ((xs.getD (j - 1) noEdge).pol) am).1)) rfl rfl) rfl rfl rfl ?_
                  refine W.any (.extract (v := .bool ((feeG ((xs.getD (j - 1) noEdge).pol) am).2)) rfl rfl) rfl rfl rfl ?_
                  refine W.any (.assign rfl) rfl rfl rfl ?_
                  refine W.any (.assign rfl) rfl rfl rfl ?_
                  refine W.nil ?_
                  refine E.thenN ?_
                  refine WC.seq ?_
                  refine WC.region ?_
                  refine W.any (.move rfl) rfl rfl rfl ?_
                  refine W.any (.move rfl) rfl rfl rfl ?_
                  refine W.ef rfl rfl rfl ?_
                  refine Ef.call go47 rfl rfl (nadd_ok am ((feeG ((xs.getD (j - 1) noEdge).pol) am).1) w15_3) ?_
                  rintro _ w16_2 ⟨rfl, h16_2⟩
                  refine ⟨_, rfl, ?_⟩
                  have L22 := L21.trans h16_2
                  refine W.any (.move rfl) rfl rfl rfl ?_
                  refine W.any (.extract (v := .int .i64 ((addC am ((feeG ((xs.getD (j - 1) noEdge).pol) am).1)).1)) rfl rfl) rfl rfl rfl ?_
                  refine W.any (.extract (v := .bool ((addC am ((feeG ((xs.getD (j - 1) noEdge).pol) am).1)).2)) rfl rfl) rfl rfl rfl ?_
                  refine W.any (.assign rfl) rfl rfl rfl ?_
                  refine W.any (.assign rfl) rfl rfl rfl ?_
                  refine W.nil ?_
                  refine E.thenN ?_
                  refine WC.seq ?_
                  refine WC.seq ?_
                  refine WC.region ?_
                  refine W.any (.move rfl) rfl rfl rfl ?_
                  refine W.any (.gtr rfl rfl) rfl rfl rfl ?_
                  by_cases q17_2 : 0 < (((j : Nat) : Int) - 1)
                  · refine W.any (.dec (.move rfl) (decide_eq_true q17_2)) rfl rfl rfl ?_
                    refine W.rdg (Any.rd (.move rfl) _) rfl rfl rfl (rfl) rfl rfl ?_
                    refine W.rdg (Any.rd (.not rfl) _) rfl rfl rfl (rfl) rfl rfl ?_
                    by_cases q17_5 : ((feeG ((xs.getD (j - 1) noEdge).pol) am).2) = true
                    · refine W.rdg (Any.rd (.dec (.move rfl) (congrArg not (q17_5))) _) rfl rfl rfl (rfl) rfl rfl ?_
                      refine W.rdg (Any.rd (.move rfl) _) rfl rfl rfl (rfl) rfl rfl ?_
                      refine W.rdg (Any.rd (.not rfl) _) rfl rfl rfl (rfl) rfl rfl ?_
                      refine W.rdg (Any.rd (.pickF rfl rfl rfl) _) rfl rfl rfl (rfl) rfl rfl ?_
                      refine W.any (.pickT rfl rfl rfl) rfl rfl rfl ?_
                      refine W.nil ?_
                      refine E.thenN ?_
                      by_cases c5 : ((addC am ((feeG ((xs.getD (j - 1) noEdge).pol) am).1)).2) = true
                      · refine WC.condN rfl (congrArg not (c5)) ?_
                        refine WC.skip ?_
                        refine E.thenN ?_
                        refine WC.draw [0, 1, 2, 3, 4, 5, 6, 7] mixed (by kernel_rfl) ?_
                        intro w19 d19
                        have L23 := L22.trans d19
                        refine G.any rfl rfl (.move rfl) rfl rfl rfl ?_
                        refine G.any rfl rfl (.move rfl) rfl rfl rfl ?_
                        refine G.any rfl rfl (.field0 fa70_4 rfl) rfl rfl rfl ?_
                        refine G.any rfl rfl (.field2 fa68_2 rfl) rfl rfl rfl ?_
                        have f24 := (f20.le (h15_3.trans (h16_2.trans d19)))
                        refine G.rd rfl rfl (.loadB (v := .int .i64 ((xs.getD (j - 1) noEdge).pol.d)) na3 rfl f24 rfl) rfl rfl rfl ?_
                        refine G.any rfl rfl (.add rfl rfl (by omega)) rfl rfl rfl ?_
                        refine G.any rfl rfl (.assign rfl) rfl rfl rfl ?_
                        refine G.any rfl rfl (.assign rfl) rfl rfl rfl ?_
                        refine G.nil ?_
                        refine E.blkN ?_
                        refine E.thenN ?_
                        refine WC.region ?_
                        refine W.any (.move rfl) rfl rfl rfl ?_
                        refine W.any (.sub rfl rfl (by omega)) rfl rfl rfl ?_
                        refine W.any (.assign rfl) rfl rfl rfl ?_
                        refine W.nil ?_
                        have f25 := ((o16.ch h14_9 ((Apart.symm ap1_9_10))).le (h15_3.trans (h16_2.trans d19)))
                        have f26 := (o19.le (h15_3.trans (h16_2.trans d19)))
                        refine E.again (j - 1, (addC am (feeG (xs.getD (j - 1) noEdge).pol am).1).1, ex + (xs.getD (j - 1) noEdge).pol.d, nextC (xs.getD (j - 1) noEdge) am ex, (am, ex) :: l) (.cons rfl (.cons rfl (.cons rfl (.cons rfl (.cons rfl (.cons' rfl (int_eq (by omega)) (.nil _))))))) ?_ ?_
                        · exact ⟨by omega, by simp; omega, costF_step (by omega) (by omega) hF (by assumption) (by omega), fun h0 => by first | (exfalso; omega) | (have hv := addC_val (by assumption : (addC am (feeG (xs.getD (j - 1) noEdge).pol am).1).2 = true); rw [hv.1]; exact ⟨by rw [nextC_some (by assumption) (by assumption), hv.1], by omega, by omega, by omega, by omega⟩), L23, by have := zl0; have := h9_4.size; have := h9_5.size; have := h10_10.size; have := h14_7.size; have := h14_9.size; have := h15_3.size; have := h16_2.size; have := d19.size; omega, f25, f26⟩
                        · first | omega | (simp only []; omega)
                      · refine WC.condY rfl (congrArg not ((Bool.eq_false_iff.2 c5))) ?_
                        refine WC.seq ?_
                        refine WC.region ?_
                        refine W.any (.assign rfl) rfl rfl rfl ?_
                        refine W.any (.assign rfl) rfl rfl rfl ?_
                        refine W.any (.assign rfl) rfl rfl rfl ?_
                        refine W.nil ?_
                        refine E.thenN ?_
                        refine WC.ret ?_
                        refine E.thenR ?_
                        refine E.blkR ?_
                        refine E.thenR ?_
                        refine E.thenR ?_
                        refine E.blkR ?_
                        refine E.thenR ?_
                        refine E.retG3 rfl rfl rfl rfl ?_
                        have hc : costG xs a x = ([], [], 6) := costG_er (by assumption) (by assumption) (by assumption) (by first | exact costF_six (by omega) (by omega) hF (by assumption) | exact costF_none (j := j - 1) (by omega) (by omega) (by rw [costF_step (by omega) (by omega) hF (by assumption) (by omega), nextC_none (by first | exact .inl (by assumption) | exact .inr (by assumption))]))
                        exact ⟨none, 0, none, 0, by rw [hc]; rfl, by rw [hc]; exact OVec.nil _ _ _ _ _ _, by rw [hc]; exact OVec.nil _ _ _ _ _ _, L22⟩
                    · refine W.rdg (Any.rd (.dec (.move rfl) (congrArg not ((Bool.eq_false_iff.2 q17_5)))) _) rfl rfl rfl (rfl) rfl rfl ?_
                      refine W.skip rfl rfl rfl (rfl) rfl rfl ?_
                      refine W.skip rfl rfl rfl (rfl) rfl rfl ?_
                      refine W.rdg (Any.rd (.pickT rfl rfl rfl) _) rfl rfl rfl (rfl) rfl rfl ?_
                      refine W.any (.pickT rfl rfl rfl) rfl rfl rfl ?_
                      refine W.nil ?_
                      refine E.thenN ?_
                      refine WC.condT rfl ?_
                      refine WC.seq ?_
                      refine WC.region ?_
                      refine W.any (.assign rfl) rfl rfl rfl ?_
                      refine W.any (.assign rfl) rfl rfl rfl ?_
                      refine W.any (.assign rfl) rfl rfl rfl ?_
                      refine W.nil ?_
                      refine E.thenN ?_
                      refine WC.ret ?_
                      refine E.thenR ?_
                      refine E.blkR ?_
                      refine E.thenR ?_
                      refine E.thenR ?_
                      refine E.blkR ?_
                      refine E.thenR ?_
                      refine E.retG3 rfl rfl rfl rfl ?_
                      have hc : costG xs a x = ([], [], 6) := costG_er (by assumption) (by assumption) (by assumption) (by first | exact costF_six (by omega) (by omega) hF (by assumption) | exact costF_none (j := j - 1) (by omega) (by omega) (by rw [costF_step (by omega) (by omega) hF (by assumption) (by omega), nextC_none (by first | exact .inl (by assumption) | exact .inr (by assumption))]))
                      exact ⟨none, 0, none, 0, by rw [hc]; rfl, by rw [hc]; exact OVec.nil _ _ _ _ _ _, by rw [hc]; exact OVec.nil _ _ _ _ _ _, L22⟩
                  · refine W.any (.dec (.move rfl) (decide_eq_false q17_2)) rfl rfl rfl ?_
                    refine W.skip rfl rfl rfl (rfl) rfl rfl ?_
                    refine W.skip rfl rfl rfl (rfl) rfl rfl ?_
                    refine W.skip rfl rfl rfl (rfl) rfl rfl ?_
                    refine W.skipu rfl rfl rfl rfl rfl ?_
                    refine W.skipu rfl rfl rfl rfl rfl ?_
                    refine W.skip rfl rfl rfl (rfl) rfl rfl ?_
                    refine W.any (.pickF rfl rfl rfl) rfl rfl rfl ?_
                    refine W.nil ?_
                    refine E.thenN ?_
                    refine WC.condF rfl ?_
                    refine WC.skip ?_
                    refine E.thenN ?_
                    refine WC.draw [0, 1, 2, 3, 4, 5, 6, 7] mixed (by kernel_rfl) ?_
                    intro w19 d19
                    have L27 := L22.trans d19
                    refine G.any rfl rfl (.move rfl) rfl rfl rfl ?_
                    refine G.any rfl rfl (.move rfl) rfl rfl rfl ?_
                    refine G.any rfl rfl (.field0 fa70_4 rfl) rfl rfl rfl ?_
                    refine G.any rfl rfl (.field2 fa68_2 rfl) rfl rfl rfl ?_
                    have f28 := (f20.le (h15_3.trans (h16_2.trans d19)))
                    refine G.rd rfl rfl (.loadB (v := .int .i64 ((xs.getD (j - 1) noEdge).pol.d)) na3 rfl f28 rfl) rfl rfl rfl ?_
                    refine G.any rfl rfl (.add rfl rfl (by omega)) rfl rfl rfl ?_
                    refine G.any rfl rfl (.assign rfl) rfl rfl rfl ?_
                    refine G.any rfl rfl (.assign rfl) rfl rfl rfl ?_
                    refine G.nil ?_
                    refine E.blkN ?_
                    refine E.thenN ?_
                    refine WC.region ?_
                    refine W.any (.move rfl) rfl rfl rfl ?_
                    refine W.any (.sub rfl rfl (by omega)) rfl rfl rfl ?_
                    refine W.any (.assign rfl) rfl rfl rfl ?_
                    refine W.nil ?_
                    have f29 := ((o16.ch h14_9 ((Apart.symm ap1_9_10))).le (h15_3.trans (h16_2.trans d19)))
                    have f30 := (o19.le (h15_3.trans (h16_2.trans d19)))
                    refine E.again (j - 1, (addC am (feeG (xs.getD (j - 1) noEdge).pol am).1).1, ex + (xs.getD (j - 1) noEdge).pol.d, nextC (xs.getD (j - 1) noEdge) am ex, (am, ex) :: l) (.cons rfl (.cons rfl (.cons rfl (.cons rfl (.cons rfl (.cons' rfl (int_eq (by omega)) (.nil _))))))) ?_ ?_
                    · exact ⟨by omega, by simp; omega, costF_step (by omega) (by omega) hF (by assumption) (by omega), fun h0 => by first | (exfalso; omega) | (have hv := addC_val (by assumption : (addC am (feeG (xs.getD (j - 1) noEdge).pol am).1).2 = true); rw [hv.1]; exact ⟨by rw [nextC_some (by assumption) (by assumption), hv.1], by omega, by omega, by omega, by omega⟩), L27, by have := zl0; have := h9_4.size; have := h9_5.size; have := h10_10.size; have := h14_7.size; have := h14_9.size; have := h15_3.size; have := h16_2.size; have := d19.size; omega, f29, f30⟩
                    · first | omega | (simp only []; omega)
              · refine WC.condY rfl (congrArg not ((Bool.eq_false_iff.2 c3))) ?_
                refine WC.seq ?_
                refine WC.region ?_
                refine W.any (.assign rfl) rfl rfl rfl ?_
                refine W.any (.assign rfl) rfl rfl rfl ?_
                refine W.any (.assign rfl) rfl rfl rfl ?_
                refine W.nil ?_
                refine E.thenN ?_
                refine WC.ret ?_
                refine E.blkR ?_
                refine E.thenR ?_
                refine E.blkR ?_
                refine E.thenR ?_
                refine E.thenR ?_
                refine E.blkR ?_
                refine E.thenR ?_
                refine E.retG3 rfl rfl rfl rfl ?_
                have hc : costG xs a x = ([], [], 6) := costG_er (by assumption) (by assumption) (by assumption) (by first | exact costF_six (by omega) (by omega) hF (by assumption) | exact costF_none (j := j - 1) (by omega) (by omega) (by rw [costF_step (by omega) (by omega) hF (by assumption) (by omega), nextC_none (by first | exact .inl (by assumption) | exact .inr (by assumption))]))
                exact ⟨none, 0, none, 0, by rw [hc]; rfl, by rw [hc]; exact OVec.nil _ _ _ _ _ _, by rw [hc]; exact OVec.nil _ _ _ _ _ _, L13⟩
            · refine WC.condN rfl (decide_eq_false c2) ?_
              have hj0 : j = 0 := by omega
              refine WC.exit ?_
              refine E.thenX ?_
              refine E.thenX ?_
              refine E.blkH ?_
              refine E.thenN ?_
              refine WC.seq ?_
              refine WC.region ?_
              refine W.any (.move rfl) rfl rfl rfl ?_
              refine W.any (.move rfl) rfl rfl rfl ?_
              refine W.any (.assign rfl) rfl rfl rfl ?_
              refine W.any (.assign rfl) rfl rfl rfl ?_
              refine W.any (.assign rfl) rfl rfl rfl ?_
              refine W.nil ?_
              refine E.thenN ?_
              refine WC.ret ?_
              refine E.retG3 rfl rfl rfl rfl ?_
              have hc := costG_ok (by assumption) (by assumption) (by assumption) (show costF a x xs = .ok (nx, l) by rw [show j = 0 by omega] at hF; exact hF)
              subst hj0
              exact ⟨some ⟨g1, 0, none⟩, n, some ⟨g2, 0, none⟩, n, by rw [hc]; simp [show l.length = n by omega], by rw [hc]; exact ((f0_0.mono L3.size)).cast (by simp; omega) (by simp), by rw [hc]; exact ((f0_1.mono L3.size)).cast (by simp; omega) (by simp), Ll0⟩
      · refine WC.condY rfl (congrArg not ((Bool.eq_false_iff.2 c1))) ?_
        refine WC.seq ?_
        refine WC.region ?_
        refine W.any (.assign rfl) rfl rfl rfl ?_
        refine W.any (.assign rfl) rfl rfl rfl ?_
        refine W.any (.assign rfl) rfl rfl rfl ?_
        refine W.nil ?_
        refine E.thenN ?_
        refine WC.ret ?_
        refine E.thenR ?_
        refine E.retG3 rfl rfl rfl rfl ?_
        have hc : costG xs a x = ([], [], 1) := costG_arg (by assumption) (by first | exact .inl (by assumption) | exact .inr (by assumption))
        exact ⟨none, 0, none, 0, by rw [hc]; rfl, by rw [hc]; exact OVec.nil _ _ _ _ _ _, by rw [hc]; exact OVec.nil _ _ _ _ _ _, L3⟩
    · refine W.any (.dec (.move rfl) (congrArg not ((Bool.eq_false_iff.2 q3_3)))) rfl rfl rfl ?_
      refine W.skip rfl rfl rfl (rfl) rfl rfl ?_
      refine W.skip rfl rfl rfl (rfl) rfl rfl ?_
      refine W.skip rfl rfl rfl (rfl) rfl rfl ?_
      refine W.any (.pickT rfl rfl rfl) rfl rfl rfl ?_
      refine W.nil ?_
      refine E.thenN ?_
      refine WC.condT rfl ?_
      refine WC.seq ?_
      refine WC.region ?_
      refine W.any (.assign rfl) rfl rfl rfl ?_
      refine W.any (.assign rfl) rfl rfl rfl ?_
      refine W.any (.assign rfl) rfl rfl rfl ?_
      refine W.nil ?_
      refine E.thenN ?_
      refine WC.ret ?_
      refine E.thenR ?_
      refine E.retG3 rfl rfl rfl rfl ?_
      have hc : costG xs a x = ([], [], 1) := costG_arg (by assumption) (by first | exact .inl (by assumption) | exact .inr (by assumption))
      exact ⟨none, 0, none, 0, by rw [hc]; rfl, by rw [hc]; exact OVec.nil _ _ _ _ _ _, by rw [hc]; exact OVec.nil _ _ _ _ _ _, L2⟩
  · refine WC.condY rfl (congrArg not ((Bool.eq_false_iff.2 c0))) ?_
    refine WC.seq ?_
    refine WC.region ?_
    refine W.any (.assign rfl) rfl rfl rfl ?_
    refine W.any (.assign rfl) rfl rfl rfl ?_
    refine W.any (.assign rfl) rfl rfl rfl ?_
    refine W.nil ?_
    refine E.thenN ?_
    refine WC.ret ?_
    refine E.thenR ?_
    refine E.retG3 rfl rfl rfl rfl ?_
    have hc : costG xs a x = ([], [], 19) := costG_way (by assumption)
    exact ⟨none, 0, none, 0, by rw [hc]; rfl, by rw [hc]; exact OVec.nil _ _ _ _ _ _, by rw [hc]; exact OVec.nil _ _ _ _ _ _, L1⟩
end Go.Proofs.Ytnmcbdbpafhinaa

