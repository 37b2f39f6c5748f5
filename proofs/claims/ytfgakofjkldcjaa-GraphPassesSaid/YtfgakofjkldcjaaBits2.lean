/- math/bits: a long division by a number of twenty bits, quotient and rest, walked. -/
import Derived.Test.YtfgakofjkldcjaaBits
namespace Go.Proofs.Ytfgakofjkldcjaa
open Go Go.Sx
set_option maxRecDepth 20000
/-- A fact that the arithmetic's tactic is not to look at. -/
structure Hid (p : Prop) : Prop where
  out : p
theorem divQ (c V T K h l y Y U v e1 e0 R Q1 Q2 : Nat) (hc : 0 < c) (hcV : c * V = T) (hK : K * K = T) (hy : 0 < y) (hY : Y = y * c) (hU : U = h * c + l / V) (hv : v = l * c % T) (h1 : e1 = v / K) (h0 : e0 = v % K) (hR : R = (U * K + e1) % Y) (hQ1 : Q1 = (U * K + e1) / Y) (hQ2 : Q2 = (R * K + e0) / Y) :
    (R * K + e0) % Y / c = (h * T + l) % y ∧ Q1 * K + Q2 = (h * T + l) / y := by
  have hY0 : 0 < Y := by rw [hY]; exact Nat.mul_pos hy hc
  have e5 : K * e1 + e0 = v := by rw [h1, h0]; exact Nat.div_add_mod v K
  have e6 : T * (l / V) + v = l * c := by
    have : l * c / T = l / V := by rw [← hcV, Nat.mul_comm c V]; exact Nat.mul_div_mul_right l V hc
    rw [← this, hv]; exact Nat.div_add_mod _ _
  have e : (U * K + e1) * K + e0 = (h * T + l) * c := by
    rw [Nat.add_mul, Nat.mul_assoc, hK, Nat.mul_comm e1, Nat.add_assoc, e5, hU, Nat.add_mul, Nat.mul_comm (l / V), Nat.add_assoc, e6, Nat.add_mul, Nat.mul_right_comm]
  have d1 : Y * Q1 + R = U * K + e1 := by rw [hQ1, hR]; exact Nat.div_add_mod _ _
  have d2 : Y * Q2 + (R * K + e0) % Y = R * K + e0 := by rw [hQ2]; exact Nat.div_add_mod _ _
  have d3 : (R * K + e0) % Y < Y := Nat.mod_lt _ hY0
  obtain ⟨r, hr⟩ : ∃ r, r = (R * K + e0) % Y := ⟨_, rfl⟩
  rw [← hr] at d2 d3 ⊢
  obtain ⟨N, hN⟩ : ∃ N, N = h * T + l := ⟨_, rfl⟩
  rw [← hN] at e ⊢
  obtain ⟨G, hG⟩ : ∃ G, G = Q1 * K + Q2 := ⟨_, rfl⟩
  rw [← hG]
  have d4 : y * G * c + r = N * c := by
    rw [← e, ← d1, Nat.add_mul, Nat.add_assoc, ← d2, hG, hY, Nat.mul_right_comm, Nat.mul_add, Nat.mul_assoc (y * c), Nat.add_assoc]
  have d5 : y * G ≤ N := Nat.le_of_mul_le_mul_right (by omega) hc
  obtain ⟨D, hD⟩ := Nat.le.dest d5
  have d6 : r = D * c := by rw [← hD, Nat.add_mul] at d4; omega
  have d7 : D < y := by rw [d6, hY] at d3; exact Nat.lt_of_mul_lt_mul_right d3
  rw [d6, Nat.mul_div_cancel _ hc, ← hD, Nat.mul_add_mod, Nat.mod_eq_of_lt d7, Nat.mul_add_div hy, Nat.div_eq_of_lt d7]
  exact ⟨rfl, rfl⟩
theorem div44 (h l y : Nat) (h1 : 524288 ≤ y) (h2 : y < 1048576) (hh : h < y) (hl : l < 18446744073709551616) :
    ∃ Y H G U v, Hid (y * 2 ^ 44 % 18446744073709551616 = Y) ∧ Hid (h * 2 ^ 44 % 18446744073709551616 = H) ∧ Hid (l / 2 ^ 20 = G) ∧ Hid (H ||| G = U) ∧ Hid (l * 2 ^ 44 % 18446744073709551616 = v) ∧ 9223372036854775808 ≤ Y ∧ Y < 18446744073709551616 ∧ U < Y ∧ v < 18446744073709551616 ∧ H < 18446744073709551616 ∧ G < 18446744073709551616 ∧
      ∀ e1 e0 R Q1 Q2, e1 = v / 4294967296 → e0 = v % 4294967296 → R = (U * 4294967296 + e1) % Y → Q1 = (U * 4294967296 + e1) / Y → Q2 = (R * 4294967296 + e0) / Y →
        Hid ((R * 4294967296 + e0) % Y / 2 ^ 44 = (h * 18446744073709551616 + l) % y) ∧ Hid ((Q1 * 4294967296 % 18446744073709551616 + Q2) % 18446744073709551616 = (h * 18446744073709551616 + l) / y) := by
  have p44 : (2 : Nat) ^ 44 = 17592186044416 := by decide
  have p20 : (2 : Nat) ^ 20 = 1048576 := by decide
  have hG : l / 2 ^ 20 < 2 ^ 44 := by rw [Nat.div_lt_iff_lt_mul (by decide)]; exact Nat.lt_of_lt_of_le hl (by decide)
  have hHY : h * 2 ^ 44 + 2 ^ 44 ≤ y * 2 ^ 44 := by rw [← Nat.succ_mul]; exact Nat.mul_le_mul_right _ hh
  have hY1 : y * 2 ^ 44 < 18446744073709551616 := Nat.lt_of_lt_of_le (Nat.mul_lt_mul_of_pos_right h2 (by decide)) (by decide)
  have hY2 : 9223372036854775808 ≤ y * 2 ^ 44 := Nat.le_trans (by decide) (Nat.mul_le_mul_right (2 ^ 44) h1)
  have hH : h * 2 ^ 44 % 18446744073709551616 = h * 2 ^ 44 := Nat.mod_eq_of_lt (Nat.lt_of_le_of_lt (Nat.le_trans (Nat.le_add_right _ _) hHY) hY1)
  have hor : h * 2 ^ 44 ||| l / 2 ^ 20 = h * 2 ^ 44 + l / 2 ^ 20 := by rw [Nat.mul_comm h]; exact (Nat.two_pow_add_eq_or_of_lt hG h).symm
  refine ⟨y * 2 ^ 44, h * 2 ^ 44, l / 2 ^ 20, h * 2 ^ 44 + l / 2 ^ 20, l * 2 ^ 44 % 18446744073709551616, ⟨Nat.mod_eq_of_lt hY1⟩, ⟨hH⟩, ⟨rfl⟩, ⟨hor⟩, ⟨rfl⟩, hY2, hY1, Nat.lt_of_lt_of_le (Nat.add_lt_add_left hG _) hHY, Nat.mod_lt _ (by decide), by rw [← hH]; exact Nat.mod_lt _ (by decide), Nat.lt_trans hG (by decide), ?_⟩
  intro e1 e0 R Q1 Q2 he1 he0 hR hQ1 hQ2
  obtain ⟨g1, g2⟩ := divQ (2 ^ 44) (2 ^ 20) 18446744073709551616 4294967296 h l y _ _ _ e1 e0 R Q1 Q2 (by decide) (by decide) (by decide) (by omega) rfl rfl rfl he1 he0 hR hQ1 hQ2
  refine ⟨⟨g1⟩, ⟨?_⟩⟩
  rw [Nat.mod_add_mod, g2]
  apply Nat.mod_eq_of_lt
  rw [Nat.div_lt_iff_lt_mul (by omega)]
  exact Nat.lt_of_lt_of_le (show h * 18446744073709551616 + l < (h + 1) * 18446744073709551616 from by rw [Nat.succ_mul]; exact Nat.add_lt_add_left hl _) (by rw [Nat.mul_comm 18446744073709551616 y]; exact Nat.mul_le_mul_right _ hh)
theorem len8b : ∀ m, 8 ≤ m → m < 16 → tab8[m]? = some 4 := by
  have h : ∀ m : Fin 16, 8 ≤ m.val → tab8[m.val]? = some 4 := by decide +kernel
  exact fun m h1 h2 => h ⟨m, h2⟩ h1

theorem len64_20 (y : Nat) (h1 : 524288 ≤ y) (h2 : y < 1048576) (w : World) : Calls Try.prog 179 #[.int .u64 ((y : Nat) : Int)] w fun e w' => e = .returned (.int .i64 20) ∧ Le w w' := by
  refine enter Try.func179 rfl rfl ?_
  have L0 := Le.refl w
  refine WC.seq ?_
  refine WC.region ?_
  refine W.any (.assign rfl) rfl rfl rfl ?_
  refine W.nil ?_
  refine E.thenN ?_
  refine WC.seq ?_
  refine WC.seq ?_
  refine WC.region ?_
  refine W.any (.move rfl) rfl rfl rfl ?_
  refine W.any (.geq rfl rfl) rfl rfl rfl ?_
  refine W.nil ?_
  refine E.thenN ?_
  refine WC.condB rfl (fun h => absurd h (by simp; omega)) (fun _ => ?_)
  refine WC.skip ?_
  refine E.thenN ?_
  refine WC.seq ?_
  refine WC.seq ?_
  refine WC.region ?_
  refine W.any (.move rfl) rfl rfl rfl ?_
  refine W.any (.geq rfl rfl) rfl rfl rfl ?_
  refine W.nil ?_
  refine E.thenN ?_
  refine WC.condB rfl (fun _ => ?_) (fun h => absurd h (by simp; omega))
  refine WC.seq ?_
  refine WC.region ?_
  refine W.any (.move rfl) rfl rfl rfl ?_
  refine W.any (.shrE (y) (16) (y / 65536) rfl rfl rfl rfl (by decide) (by omega)) rfl rfl rfl ?_
  refine W.any (.assign rfl) rfl rfl rfl ?_
  refine W.nil ?_
  refine E.thenN ?_
  refine WC.region ?_
  refine W.any (.move rfl) rfl rfl rfl ?_
  refine W.any (.add rfl rfl (by omega)) rfl rfl rfl ?_
  refine W.any (.assign rfl) rfl rfl rfl ?_
  refine W.nil ?_
  refine E.thenN ?_
  refine WC.seq ?_
  refine WC.seq ?_
  refine WC.region ?_
  refine W.any (.move rfl) rfl rfl rfl ?_
  refine W.any (.geq rfl rfl) rfl rfl rfl ?_
  refine W.nil ?_
  refine E.thenN ?_
  refine WC.condB rfl (fun h => absurd h (by simp; omega)) (fun _ => ?_)
  refine WC.skip ?_
  refine E.thenN ?_
  refine WC.seq ?_
  refine WC.region ?_
  refine W.any (.move rfl) rfl rfl rfl ?_
  refine W.any (.move rfl) rfl rfl rfl ?_
  refine W.rd (.toU8 (y / 65536) (isS Try.underlying29) Try.underlying5 rfl rfl) rfl rfl rfl ?_
  refine W.any (.idxStr (y / 65536) 4 Try.underlying9 rfl rfl (by rw [BitVec.toNat_ofNat, Nat.mod_eq_of_lt (by omega)]) (len8b (y / 65536) (by omega) (by omega))) rfl rfl rfl ?_
  refine W.rd (.idI (isS Try.underlying5) Try.underlying3 rfl (IntWalk.i64_in _ (by decide))) rfl rfl rfl ?_
  refine W.any (.add rfl rfl (by decide)) rfl rfl rfl ?_
  refine W.any (.assign rfl) rfl rfl rfl ?_
  refine W.nil ?_
  refine E.thenN ?_
  refine WC.ret ?_
  refine E.ret1 rfl rfl ?_
  exact ⟨rfl, L0⟩

theorem lz64_20 (y : Nat) (h1 : 524288 ≤ y) (h2 : y < 1048576) (w : World) : Calls Try.prog 181 #[.int .u64 ((y : Nat) : Int)] w fun e w' => e = .returned (.int .i64 44) ∧ Le w w' := by
  refine enter Try.func181 rfl rfl ?_
  have L0 := Le.refl w
  refine WC.seq ?_
  refine WC.region ?_
  refine W.any (.assign rfl) rfl rfl rfl ?_
  refine W.nil ?_
  refine E.thenN ?_
  refine WC.seq ?_
  refine WC.region ?_
  refine W.any (.move rfl) rfl rfl rfl ?_
  refine W.ef rfl rfl rfl ?_
  refine Ef.call go179 rfl rfl (len64_20 y h1 h2 w) ?_
  rintro _ w1_1 ⟨rfl, h1_1⟩
  refine ⟨_, rfl, ?_⟩
  have L1_1 := L0.trans h1_1
  refine W.any (.sub rfl rfl (by decide)) rfl rfl rfl ?_
  refine W.any (.assign rfl) rfl rfl rfl ?_
  refine W.nil ?_
  refine E.thenN ?_
  refine WC.ret ?_
  refine E.ret1 rfl rfl ?_
  exact ⟨rfl, L1_1⟩

theorem div64_q44 (h l y : Nat) (h1 : 524288 ≤ y) (h2 : y < 1048576) (hh : h < y) (hl : l < 18446744073709551616) (w : World) : Calls Try.prog 158 #[.int .u64 ((h : Nat) : Int), .int .u64 ((l : Nat) : Int), .int .u64 ((y : Nat) : Int)] w fun e w' => e = .returned (.tuple #[.int .u64 (((h * 18446744073709551616 + l) / y : Nat) : Int), .int .u64 (((h * 18446744073709551616 + l) % y : Nat) : Int)]) ∧ Le w w' := by
  obtain ⟨Y, Hn, Gn, U, v, fY, fH, fG, fU, fv, hYlo, hYhi, hU, hv2, hH2, hG2, fin⟩ := div44 h l y (by omega) (by omega) hh hl
  obtain ⟨a, ha⟩ : ∃ a, a = Y / 4294967296 := ⟨_, rfl⟩
  obtain ⟨b, hb0⟩ : ∃ b, b = Y % 4294967296 := ⟨_, rfl⟩
  obtain ⟨e1, he1⟩ : ∃ e1, e1 = v / 4294967296 := ⟨_, rfl⟩
  obtain ⟨e0, he0⟩ : ∃ e0, e0 = v % 4294967296 := ⟨_, rfl⟩
  have hY : Y = a * 4294967296 + b := by omega
  have ha1 : 2147483648 ≤ a := by omega
  have ha2 : a < 4294967296 := by omega
  have hb1 : b < 4294967296 := by omega
  have he12 : e1 < 4294967296 := by omega
  have he02 : e0 < 4294967296 := by omega
  obtain ⟨R, hR⟩ : ∃ R, R = (U * 4294967296 + e1) % Y := ⟨_, rfl⟩
  obtain ⟨Q1, hQ1⟩ : ∃ Q1, Q1 = (U * 4294967296 + e1) / Y := ⟨_, rfl⟩
  obtain ⟨Q2, hQ2⟩ : ∃ Q2, Q2 = (R * 4294967296 + e0) / Y := ⟨_, rfl⟩
  have hRY : R < Y := by rw [hR]; exact Nat.mod_lt _ (by omega)
  obtain ⟨hfin, hquo⟩ := fin e1 e0 R Q1 Q2 he1 he0 hR hQ1 hQ2
  have hlz : ∀ w, Calls Try.prog 181 #[.int .u64 ((y : Nat) : Int)] w (fun e w' => e = .returned (.int .i64 44) ∧ Le w w') := fun w => by
    exact lz64_20 y (by omega) (by omega) w
  refine enter Try.func158 rfl rfl ?_
  have L0 := Le.refl w
  refine WC.seq ?_
  refine WC.region ?_
  refine W.any (.assign rfl) rfl rfl rfl ?_
  refine W.any (.assign rfl) rfl rfl rfl ?_
  refine W.nil ?_
  refine E.thenN ?_
  refine WC.seq ?_
  refine WC.seq ?_
  refine WC.region ?_
  refine W.any (.move rfl) rfl rfl rfl ?_
  refine W.any (.eql rfl rfl) rfl rfl rfl ?_
  refine W.nil ?_
  refine E.thenN ?_
  refine WC.condB rfl (fun h => absurd h (by simp; omega)) (fun _ => ?_)
  refine WC.skip ?_
  refine E.thenN ?_
  refine WC.seq ?_
  refine WC.seq ?_
  refine WC.region ?_
  refine W.any (.move rfl) rfl rfl rfl ?_
  refine W.any (.move rfl) rfl rfl rfl ?_
  refine W.any (.leq rfl rfl) rfl rfl rfl ?_
  refine W.nil ?_
  refine E.thenN ?_
  refine WC.condB rfl (fun h => absurd h (by simp; omega)) (fun _ => ?_)
  refine WC.skip ?_
  refine E.thenN ?_
  refine WC.seq ?_
  refine WC.seq ?_
  refine WC.region ?_
  refine W.any (.move rfl) rfl rfl rfl ?_
  refine W.any (.eql rfl rfl) rfl rfl rfl ?_
  refine W.nil ?_
  refine E.thenN ?_
  refine WC.cond rfl (fun c2 => ?_) (fun c2 => ?_)
  · have h0 : h = 0 := by omega
    subst h0
    refine WC.seq ?_
    refine WC.draw [0, 1, 2, 3, 4, 5, 6, 7] mixed (by kernel_rfl) ?_
    intro w6 d6
    have L6 := L0.trans d6
    refine G.any rfl rfl (.move rfl) rfl rfl rfl ?_
    refine G.any rfl rfl (.move rfl) rfl rfl rfl ?_
    refine G.any rfl rfl (.quoN (l) (y) (l / y) rfl rfl rfl rfl (by omega) (by omega) (rfl)) rfl rfl rfl ?_
    refine G.any rfl rfl (.move rfl) rfl rfl rfl ?_
    refine G.any rfl rfl (.move rfl) rfl rfl rfl ?_
    refine G.any rfl rfl (.remN (l) (y) (l % y) rfl rfl rfl rfl (by omega) (rfl)) rfl rfl rfl ?_
    refine G.any rfl rfl (.assign rfl) rfl rfl rfl ?_
    refine G.any rfl rfl (.assign rfl) rfl rfl rfl ?_
    refine G.nil ?_
    refine E.thenN ?_
    refine WC.ret ?_
    refine E.thenR ?_
    refine E.ret2 rfl rfl rfl ?_
    exact ⟨by rw [Nat.zero_mul, Nat.zero_add], L6⟩
  · refine WC.skip ?_
    refine E.thenN ?_
    refine WC.seq ?_
    refine WC.region ?_
    refine W.any (.move rfl) rfl rfl rfl ?_
    refine W.ef rfl rfl rfl ?_
    refine Ef.call go181 rfl rfl (hlz w) ?_
    rintro _ w7_1 ⟨rfl, h7_1⟩
    refine ⟨_, rfl, ?_⟩
    have L7_1 := L0.trans h7_1
    refine W.rd (.idI (isS Try.underlying3) Try.underlying213 rfl (IntWalk.u64_in _ (by decide))) rfl rfl rfl ?_
    refine W.any (.assign rfl) rfl rfl rfl ?_
    refine W.nil ?_
    refine E.thenN ?_
    refine WC.seq ?_
    refine WC.region ?_
    refine W.any (.move rfl) rfl rfl rfl ?_
    refine W.any (.move rfl) rfl rfl rfl ?_
    refine W.any (.shlN (y) (44) (Y) rfl rfl rfl rfl (by decide) (fY.out)) rfl rfl rfl ?_
    refine W.any (.assign rfl) rfl rfl rfl ?_
    refine W.nil ?_
    refine E.thenN ?_
    refine WC.seq ?_
    refine WC.region ?_
    refine W.any (.move rfl) rfl rfl rfl ?_
    refine W.any (.shrE (Y) (32) (a) rfl rfl rfl rfl (by decide) (by omega)) rfl rfl rfl ?_
    refine W.any (.assign rfl) rfl rfl rfl ?_
    refine W.nil ?_
    refine E.thenN ?_
    refine WC.seq ?_
    refine WC.region ?_
    refine W.any (.move rfl) rfl rfl rfl ?_
    refine W.any (.andE (Y) (4294967295) (b) rfl rfl rfl rfl (by omega) (by omega) ((mask32 _).trans hb0.symm)) rfl rfl rfl ?_
    refine W.any (.assign rfl) rfl rfl rfl ?_
    refine W.nil ?_
    refine E.thenN ?_
    refine WC.seq ?_
    refine WC.region ?_
    refine W.any (.move rfl) rfl rfl rfl ?_
    refine W.any (.move rfl) rfl rfl rfl ?_
    refine W.any (.shlN (h) (44) (Hn) rfl rfl rfl rfl (by decide) (fH.out)) rfl rfl rfl ?_
    refine W.any (.move rfl) rfl rfl rfl ?_
    refine W.any (.move rfl) rfl rfl rfl ?_
    refine W.any (.subN (64) (44) (20) rfl rfl rfl rfl (by decide) (by decide)) rfl rfl rfl ?_
    refine W.any (.shrE (l) (20) (Gn) rfl rfl rfl rfl (by decide) (fG.out)) rfl rfl rfl ?_
    refine W.any (.orE (Hn) (Gn) (U) rfl rfl rfl rfl (by omega) (by omega) (fU.out)) rfl rfl rfl ?_
    refine W.any (.assign rfl) rfl rfl rfl ?_
    refine W.nil ?_
    refine E.thenN ?_
    refine WC.seq ?_
    refine WC.region ?_
    refine W.any (.move rfl) rfl rfl rfl ?_
    refine W.any (.move rfl) rfl rfl rfl ?_
    refine W.any (.shlN (l) (44) (v) rfl rfl rfl rfl (by decide) (fv.out)) rfl rfl rfl ?_
    refine W.any (.assign rfl) rfl rfl rfl ?_
    refine W.nil ?_
    refine E.thenN ?_
    refine WC.seq ?_
    refine WC.region ?_
    refine W.any (.move rfl) rfl rfl rfl ?_
    refine W.any (.shrE (v) (32) (e1) rfl rfl rfl rfl (by decide) (by omega)) rfl rfl rfl ?_
    refine W.any (.assign rfl) rfl rfl rfl ?_
    refine W.nil ?_
    refine E.thenN ?_
    refine WC.seq ?_
    refine WC.region ?_
    refine W.any (.move rfl) rfl rfl rfl ?_
    refine W.any (.andE (v) (4294967295) (e0) rfl rfl rfl rfl (by omega) (by omega) ((mask32 _).trans he0.symm)) rfl rfl rfl ?_
    refine W.any (.assign rfl) rfl rfl rfl ?_
    refine W.nil ?_
    refine E.thenN ?_
    refine WC.seq ?_
    refine WC.region ?_
    refine W.any (.move rfl) rfl rfl rfl ?_
    refine W.any (.move rfl) rfl rfl rfl ?_
    refine W.any (.quoN (U) (a) (U / a) rfl rfl rfl rfl (by omega) (by omega) (rfl)) rfl rfl rfl ?_
    refine W.any (.assign rfl) rfl rfl rfl ?_
    refine W.nil ?_
    refine E.thenN ?_
    refine WC.seq ?_
    refine WC.region ?_
    refine W.any (.move rfl) rfl rfl rfl ?_
    refine W.any (.move rfl) rfl rfl rfl ?_
    refine W.any (.move rfl) rfl rfl rfl ?_
    refine W.any (.mulN (U / a) (a) (U / a * a) rfl rfl rfl rfl (Nat.mod_eq_of_lt (Nat.lt_of_le_of_lt (Nat.div_mul_le_self _ _) (by omega)))) rfl rfl rfl ?_
    refine W.any (.subN (U) (U / a * a) (U % a) rfl rfl rfl rfl (Nat.le_trans (Nat.div_mul_le_self _ _) (by omega)) (sub_div U a (by omega))) rfl rfl rfl ?_
    refine W.any (.assign rfl) rfl rfl rfl ?_
    refine W.nil ?_
    refine E.thenN ?_
    refine WC.cut (ι := Unit) (fun () => [(2, .int .u64 ((Y : Nat) : Int)), (8, .int .u64 (44 : Int)), (9, .int .u64 ((a : Nat) : Int)), (10, .int .u64 ((b : Nat) : Int)), (11, .int .u64 ((U : Nat) : Int)), (13, .int .u64 ((e1 : Nat) : Int)), (14, .int .u64 ((e0 : Nat) : Int)), (15, .int .u64 ((Q1 : Nat) : Int))]) (fun () wc15 => Le w wc15) ?_ ?_
    · refine WC.block ?_
      refine WC.loop (ι := Nat × Nat) (fun ⟨qh, rh⟩ => [(2, .int .u64 ((Y : Nat) : Int)), (8, .int .u64 (44 : Int)), (9, .int .u64 ((a : Nat) : Int)), (10, .int .u64 ((b : Nat) : Int)), (11, .int .u64 ((U : Nat) : Int)), (13, .int .u64 ((e1 : Nat) : Int)), (14, .int .u64 ((e0 : Nat) : Int)), (15, .int .u64 ((qh : Nat) : Int)), (16, .int .u64 ((rh : Nat) : Int))]) (fun ⟨qh, rh⟩ wl => Le w wl ∧ qh * a + rh = U ∧ Q1 ≤ qh ∧ rh < 4294967296 ∧ qh ≤ 4294967297) (fun ⟨qh, rh⟩ => qh) (U / a, U % a) ?_ ?_ ?_
      · exact .cons rfl (.cons rfl (.cons rfl (.cons rfl (.cons rfl (.cons rfl (.cons rfl (.cons rfl (.cons rfl (.nil _)))))))))
      · exact ⟨L7_1, by rw [Nat.mul_comm]; exact Nat.div_add_mod _ _, by rw [hQ1]; exact dig_start hY (by omega) hU (by omega), Nat.lt_of_lt_of_le (Nat.mod_lt _ (by omega)) (by omega), dig_first hY (by omega) (by omega) hU⟩
      · rintro ⟨qh, rh⟩ wl ⟨Ll, hi, hq, hr, hq2⟩
        refine WC.seq ?_
        refine WC.seq ?_
        refine WC.region ?_
        refine W.any (.move rfl) rfl rfl rfl ?_
        refine W.any (.geq rfl rfl) rfl rfl rfl ?_
        by_cases hb : 4294967296 ≤ qh
        · refine W.any (.move rfl) rfl rfl rfl ?_
          refine W.skip rfl rfl rfl (decide_eq_true (by omega)) rfl rfl ?_
          refine W.skip rfl rfl rfl (decide_eq_true (by omega)) rfl rfl ?_
          refine W.skip rfl rfl rfl (decide_eq_true (by omega)) rfl rfl ?_
          refine W.skip rfl rfl rfl (decide_eq_true (by omega)) rfl rfl ?_
          refine W.skip rfl rfl rfl (decide_eq_true (by omega)) rfl rfl ?_
          refine W.skip rfl rfl rfl (decide_eq_true (by omega)) rfl rfl ?_
          refine W.skip rfl rfl rfl (decide_eq_true (by omega)) rfl rfl ?_
          refine W.skip rfl rfl rfl (decide_eq_true (by omega)) rfl rfl ?_
          refine W.any (.pickT rfl (decide_eq_true (by omega)) rfl) rfl rfl rfl ?_
          have hgt : Q1 < qh := by rw [hQ1]; exact dig_gt hY hU (by omega) hi (by omega)
          have hd : qh * a = (qh - 1) * a + a := by rw [← Nat.succ_mul]; congr 1; omega
          have hinv : (qh - 1) * a + (rh + a) = U := by omega
          refine W.nil ?_
          refine E.thenN ?_
          refine WC.condT rfl ?_
          refine WC.skip ?_
          refine E.thenN ?_
          refine WC.block ?_
          refine WC.seq ?_
          refine WC.region ?_
          refine W.any (.move rfl) rfl rfl rfl ?_
          refine W.any (.subN (qh) (1) (qh - 1) rfl rfl rfl rfl (by omega) (by omega)) rfl rfl rfl ?_
          refine W.any (.assign rfl) rfl rfl rfl ?_
          refine W.nil ?_
          refine E.thenN ?_
          refine WC.seq ?_
          refine WC.region ?_
          refine W.any (.move rfl) rfl rfl rfl ?_
          refine W.any (.move rfl) rfl rfl rfl ?_
          refine W.any (.addN (rh) (a) (rh + a) rfl rfl rfl rfl (by omega)) rfl rfl rfl ?_
          refine W.any (.assign rfl) rfl rfl rfl ?_
          refine W.nil ?_
          refine E.thenN ?_
          refine WC.seq ?_
          refine WC.region ?_
          refine W.any (.move rfl) rfl rfl rfl ?_
          refine W.any (.geq rfl rfl) rfl rfl rfl ?_
          refine W.nil ?_
          refine E.thenN ?_
          refine WC.cond rfl (fun c4 => ?_) (fun c4 => ?_)
          · have hqe : qh - 1 = Q1 := Nat.le_antisymm (by rw [hQ1]; exact dig_brk hY (by omega) hb1 hinv (by omega) (by omega)) (by omega)
            refine WC.exit ?_
            refine E.blkX rfl ?_
            refine E.thenX ?_
            refine E.blkH ?_
            refine E.meet () (.cons rfl (.cons rfl (.cons rfl (.cons rfl (.cons rfl (.cons rfl (.cons rfl (.cons' rfl (int_eq (by rw [hqe])) (.nil _))))))))) ?_
            exact Ll
          · refine WC.skip ?_
            refine E.blkN ?_
            refine E.again (qh - 1, rh + a) (.cons rfl (.cons rfl (.cons rfl (.cons rfl (.cons rfl (.cons rfl (.cons rfl (.cons rfl (.cons rfl (.nil _)))))))))) ?_ ?_
            · exact ⟨Ll, hinv, by omega, by omega, by omega⟩
            · first | omega | (simp only []; omega)
        · refine W.any (.move rfl) rfl rfl rfl ?_
          refine W.rdg (Any.rd (.move rfl) _) rfl rfl rfl (decide_eq_false (by omega)) rfl rfl ?_
          refine W.rdg (Any.rd (.move rfl) _) rfl rfl rfl (decide_eq_false (by omega)) rfl rfl ?_
          have hqb : qh * b < 18446744073709551616 := Nat.lt_of_le_of_lt (Nat.mul_le_mul (show qh ≤ 4294967295 by omega) (show b ≤ 4294967295 by omega)) (by decide)
          refine W.rdg (Any.rd (.mulN (qh) (b) (qh * b) rfl rfl rfl rfl (Nat.mod_eq_of_lt hqb)) _) rfl rfl rfl (decide_eq_false (by omega)) rfl rfl ?_
          refine W.rdg (Any.rd (.move rfl) _) rfl rfl rfl (decide_eq_false (by omega)) rfl rfl ?_
          refine W.rdg (Any.rd (.mulN (4294967296) (rh) (4294967296 * rh) rfl rfl rfl rfl (by omega)) _) rfl rfl rfl (decide_eq_false (by omega)) rfl rfl ?_
          refine W.rdg (Any.rd (.move rfl) _) rfl rfl rfl (decide_eq_false (by omega)) rfl rfl ?_
          refine W.rdg (Any.rd (.addN (4294967296 * rh) (e1) (4294967296 * rh + e1) rfl rfl rfl rfl (by omega)) _) rfl rfl rfl (decide_eq_false (by omega)) rfl rfl ?_
          refine W.rdg (Any.rd (.gtr rfl rfl) _) rfl rfl rfl (decide_eq_false (by omega)) rfl rfl ?_
          refine W.any (.pickF rfl (decide_eq_false (by omega)) rfl) rfl rfl rfl ?_
          refine W.nil ?_
          refine E.thenN ?_
          refine WC.cond rfl (fun c3 => ?_) (fun c3 => ?_)
          · have hgt : Q1 < qh := by rw [hQ1]; exact dig_gt hY hU (by omega) hi (by omega)
            have hd : qh * a = (qh - 1) * a + a := by rw [← Nat.succ_mul]; congr 1; omega
            have hinv : (qh - 1) * a + (rh + a) = U := by omega
            refine WC.skip ?_
            refine E.thenN ?_
            refine WC.block ?_
            refine WC.seq ?_
            refine WC.region ?_
            refine W.any (.move rfl) rfl rfl rfl ?_
            refine W.any (.subN (qh) (1) (qh - 1) rfl rfl rfl rfl (by omega) (by omega)) rfl rfl rfl ?_
            refine W.any (.assign rfl) rfl rfl rfl ?_
            refine W.nil ?_
            refine E.thenN ?_
            refine WC.seq ?_
            refine WC.region ?_
            refine W.any (.move rfl) rfl rfl rfl ?_
            refine W.any (.move rfl) rfl rfl rfl ?_
            refine W.any (.addN (rh) (a) (rh + a) rfl rfl rfl rfl (by omega)) rfl rfl rfl ?_
            refine W.any (.assign rfl) rfl rfl rfl ?_
            refine W.nil ?_
            refine E.thenN ?_
            refine WC.seq ?_
            refine WC.region ?_
            refine W.any (.move rfl) rfl rfl rfl ?_
            refine W.any (.geq rfl rfl) rfl rfl rfl ?_
            refine W.nil ?_
            refine E.thenN ?_
            refine WC.cond rfl (fun c4 => ?_) (fun c4 => ?_)
            · have hqe : qh - 1 = Q1 := Nat.le_antisymm (by rw [hQ1]; exact dig_brk hY (by omega) hb1 hinv (by omega) (by omega)) (by omega)
              refine WC.exit ?_
              refine E.blkX rfl ?_
              refine E.thenX ?_
              refine E.blkH ?_
              refine E.meet () (.cons rfl (.cons rfl (.cons rfl (.cons rfl (.cons rfl (.cons rfl (.cons rfl (.cons' rfl (int_eq (by rw [hqe])) (.nil _))))))))) ?_
              exact Ll
            · refine WC.skip ?_
              refine E.blkN ?_
              refine E.again (qh - 1, rh + a) (.cons rfl (.cons rfl (.cons rfl (.cons rfl (.cons rfl (.cons rfl (.cons rfl (.cons rfl (.cons rfl (.nil _)))))))))) ?_ ?_
              · exact ⟨Ll, hinv, by omega, by omega, by omega⟩
              · first | omega | (simp only []; omega)
          · have hqe : qh = Q1 := Nat.le_antisymm (by rw [hQ1]; exact dig_le hY (by omega) hi (by omega)) hq
            refine WC.exit ?_
            refine E.thenX ?_
            refine E.thenX ?_
            refine E.blkH ?_
            refine E.meet () (.cons rfl (.cons rfl (.cons rfl (.cons rfl (.cons rfl (.cons rfl (.cons rfl (.cons' rfl (int_eq (by rw [hqe])) (.nil _))))))))) ?_
            exact Ll
    · rintro ⟨⟩ wc15 Lc15
      refine WC.seq ?_
      refine WC.region ?_
      refine W.any (.move rfl) rfl rfl rfl ?_
      refine W.any (.mulN (U) (4294967296) (U * 4294967296 % 18446744073709551616) rfl rfl rfl rfl (rfl)) rfl rfl rfl ?_
      refine W.any (.move rfl) rfl rfl rfl ?_
      refine W.any (.addN (U * 4294967296 % 18446744073709551616) (e1) ((U * 4294967296 + e1) % 18446744073709551616) rfl rfl rfl rfl (by rw [Nat.mod_add_mod])) rfl rfl rfl ?_
      refine W.any (.move rfl) rfl rfl rfl ?_
      refine W.any (.move rfl) rfl rfl rfl ?_
      refine W.any (.mulN (Q1) (Y) (Q1 * Y % 18446744073709551616) rfl rfl rfl rfl (rfl)) rfl rfl rfl ?_
      refine W.any (.subN ((U * 4294967296 + e1) % 18446744073709551616) (Q1 * Y % 18446744073709551616) (R) rfl rfl rfl rfl (Nat.le_of_lt (Nat.mod_lt _ (by decide))) ((dig_rest Y _ _ hQ1 (by omega) (by omega)).trans hR.symm)) rfl rfl rfl ?_
      refine W.any (.assign rfl) rfl rfl rfl ?_
      refine W.nil ?_
      refine E.thenN ?_
      refine WC.seq ?_
      refine WC.region ?_
      refine W.any (.move rfl) rfl rfl rfl ?_
      refine W.any (.move rfl) rfl rfl rfl ?_
      refine W.any (.quoN (R) (a) (R / a) rfl rfl rfl rfl (by omega) (by omega) (rfl)) rfl rfl rfl ?_
      refine W.any (.assign rfl) rfl rfl rfl ?_
      refine W.nil ?_
      refine E.thenN ?_
      refine WC.seq ?_
      refine WC.region ?_
      refine W.any (.move rfl) rfl rfl rfl ?_
      refine W.any (.move rfl) rfl rfl rfl ?_
      refine W.any (.move rfl) rfl rfl rfl ?_
      refine W.any (.mulN (R / a) (a) (R / a * a) rfl rfl rfl rfl (Nat.mod_eq_of_lt (Nat.lt_of_le_of_lt (Nat.div_mul_le_self _ _) (by omega)))) rfl rfl rfl ?_
      refine W.any (.subN (R) (R / a * a) (R % a) rfl rfl rfl rfl (Nat.le_trans (Nat.div_mul_le_self _ _) (by omega)) (sub_div R a (by omega))) rfl rfl rfl ?_
      refine W.any (.assign rfl) rfl rfl rfl ?_
      refine W.nil ?_
      refine E.thenN ?_
      refine WC.cut (ι := Unit) (fun () => [(2, .int .u64 ((Y : Nat) : Int)), (8, .int .u64 (44 : Int)), (9, .int .u64 ((a : Nat) : Int)), (10, .int .u64 ((b : Nat) : Int)), (14, .int .u64 ((e0 : Nat) : Int)), (17, .int .u64 ((R : Nat) : Int)), (15, .int .u64 ((Q1 : Nat) : Int)), (18, .int .u64 ((Q2 : Nat) : Int))]) (fun () wc18 => Le w wc18) ?_ ?_
      · refine WC.block ?_
        refine WC.loop (ι := Nat × Nat) (fun ⟨qh, rh⟩ => [(2, .int .u64 ((Y : Nat) : Int)), (8, .int .u64 (44 : Int)), (9, .int .u64 ((a : Nat) : Int)), (10, .int .u64 ((b : Nat) : Int)), (14, .int .u64 ((e0 : Nat) : Int)), (17, .int .u64 ((R : Nat) : Int)), (15, .int .u64 ((Q1 : Nat) : Int)), (18, .int .u64 ((qh : Nat) : Int)), (16, .int .u64 ((rh : Nat) : Int))]) (fun ⟨qh, rh⟩ wl => Le w wl ∧ qh * a + rh = R ∧ Q2 ≤ qh ∧ rh < 4294967296 ∧ qh ≤ 4294967297) (fun ⟨qh, rh⟩ => qh) (R / a, R % a) ?_ ?_ ?_
        · exact .cons rfl (.cons rfl (.cons rfl (.cons rfl (.cons rfl (.cons rfl (.cons rfl (.cons rfl (.cons rfl (.nil _)))))))))
        · exact ⟨Lc15, by rw [Nat.mul_comm]; exact Nat.div_add_mod _ _, by rw [hQ2]; exact dig_start hY (by omega) hRY (by omega), Nat.lt_of_lt_of_le (Nat.mod_lt _ (by omega)) (by omega), dig_first hY (by omega) (by omega) hRY⟩
        · rintro ⟨qh, rh⟩ wl ⟨Ll, hi, hq, hr, hq2⟩
          refine WC.seq ?_
          refine WC.seq ?_
          refine WC.region ?_
          refine W.any (.move rfl) rfl rfl rfl ?_
          refine W.any (.geq rfl rfl) rfl rfl rfl ?_
          by_cases hb : 4294967296 ≤ qh
          · refine W.any (.move rfl) rfl rfl rfl ?_
            refine W.skip rfl rfl rfl (decide_eq_true (by omega)) rfl rfl ?_
            refine W.skip rfl rfl rfl (decide_eq_true (by omega)) rfl rfl ?_
            refine W.skip rfl rfl rfl (decide_eq_true (by omega)) rfl rfl ?_
            refine W.skip rfl rfl rfl (decide_eq_true (by omega)) rfl rfl ?_
            refine W.skip rfl rfl rfl (decide_eq_true (by omega)) rfl rfl ?_
            refine W.skip rfl rfl rfl (decide_eq_true (by omega)) rfl rfl ?_
            refine W.skip rfl rfl rfl (decide_eq_true (by omega)) rfl rfl ?_
            refine W.skip rfl rfl rfl (decide_eq_true (by omega)) rfl rfl ?_
            refine W.any (.pickT rfl (decide_eq_true (by omega)) rfl) rfl rfl rfl ?_
            have hgt : Q2 < qh := by rw [hQ2]; exact dig_gt hY hRY (by omega) hi (by omega)
            have hd : qh * a = (qh - 1) * a + a := by rw [← Nat.succ_mul]; congr 1; omega
            have hinv : (qh - 1) * a + (rh + a) = R := by omega
            refine W.nil ?_
            refine E.thenN ?_
            refine WC.condT rfl ?_
            refine WC.skip ?_
            refine E.thenN ?_
            refine WC.block ?_
            refine WC.seq ?_
            refine WC.region ?_
            refine W.any (.move rfl) rfl rfl rfl ?_
            refine W.any (.subN (qh) (1) (qh - 1) rfl rfl rfl rfl (by omega) (by omega)) rfl rfl rfl ?_
            refine W.any (.assign rfl) rfl rfl rfl ?_
            refine W.nil ?_
            refine E.thenN ?_
            refine WC.seq ?_
            refine WC.region ?_
            refine W.any (.move rfl) rfl rfl rfl ?_
            refine W.any (.move rfl) rfl rfl rfl ?_
            refine W.any (.addN (rh) (a) (rh + a) rfl rfl rfl rfl (by omega)) rfl rfl rfl ?_
            refine W.any (.assign rfl) rfl rfl rfl ?_
            refine W.nil ?_
            refine E.thenN ?_
            refine WC.seq ?_
            refine WC.region ?_
            refine W.any (.move rfl) rfl rfl rfl ?_
            refine W.any (.geq rfl rfl) rfl rfl rfl ?_
            refine W.nil ?_
            refine E.thenN ?_
            refine WC.cond rfl (fun c6 => ?_) (fun c6 => ?_)
            · have hqe : qh - 1 = Q2 := Nat.le_antisymm (by rw [hQ2]; exact dig_brk hY (by omega) hb1 hinv (by omega) (by omega)) (by omega)
              refine WC.exit ?_
              refine E.blkX rfl ?_
              refine E.thenX ?_
              refine E.blkH ?_
              refine E.meet () (.cons rfl (.cons rfl (.cons rfl (.cons rfl (.cons rfl (.cons rfl (.cons rfl (.cons' rfl (int_eq (by rw [hqe])) (.nil _))))))))) ?_
              exact Ll
            · refine WC.skip ?_
              refine E.blkN ?_
              refine E.again (qh - 1, rh + a) (.cons rfl (.cons rfl (.cons rfl (.cons rfl (.cons rfl (.cons rfl (.cons rfl (.cons rfl (.cons rfl (.nil _)))))))))) ?_ ?_
              · exact ⟨Ll, hinv, by omega, by omega, by omega⟩
              · first | omega | (simp only []; omega)
          · refine W.any (.move rfl) rfl rfl rfl ?_
            refine W.rdg (Any.rd (.move rfl) _) rfl rfl rfl (decide_eq_false (by omega)) rfl rfl ?_
            refine W.rdg (Any.rd (.move rfl) _) rfl rfl rfl (decide_eq_false (by omega)) rfl rfl ?_
            have hqb : qh * b < 18446744073709551616 := Nat.lt_of_le_of_lt (Nat.mul_le_mul (show qh ≤ 4294967295 by omega) (show b ≤ 4294967295 by omega)) (by decide)
            refine W.rdg (Any.rd (.mulN (qh) (b) (qh * b) rfl rfl rfl rfl (Nat.mod_eq_of_lt hqb)) _) rfl rfl rfl (decide_eq_false (by omega)) rfl rfl ?_
            refine W.rdg (Any.rd (.move rfl) _) rfl rfl rfl (decide_eq_false (by omega)) rfl rfl ?_
            refine W.rdg (Any.rd (.mulN (4294967296) (rh) (4294967296 * rh) rfl rfl rfl rfl (by omega)) _) rfl rfl rfl (decide_eq_false (by omega)) rfl rfl ?_
            refine W.rdg (Any.rd (.move rfl) _) rfl rfl rfl (decide_eq_false (by omega)) rfl rfl ?_
            refine W.rdg (Any.rd (.addN (4294967296 * rh) (e0) (4294967296 * rh + e0) rfl rfl rfl rfl (by omega)) _) rfl rfl rfl (decide_eq_false (by omega)) rfl rfl ?_
            refine W.rdg (Any.rd (.gtr rfl rfl) _) rfl rfl rfl (decide_eq_false (by omega)) rfl rfl ?_
            refine W.any (.pickF rfl (decide_eq_false (by omega)) rfl) rfl rfl rfl ?_
            refine W.nil ?_
            refine E.thenN ?_
            refine WC.cond rfl (fun c5 => ?_) (fun c5 => ?_)
            · have hgt : Q2 < qh := by rw [hQ2]; exact dig_gt hY hRY (by omega) hi (by omega)
              have hd : qh * a = (qh - 1) * a + a := by rw [← Nat.succ_mul]; congr 1; omega
              have hinv : (qh - 1) * a + (rh + a) = R := by omega
              refine WC.skip ?_
              refine E.thenN ?_
              refine WC.block ?_
              refine WC.seq ?_
              refine WC.region ?_
              refine W.any (.move rfl) rfl rfl rfl ?_
              refine W.any (.subN (qh) (1) (qh - 1) rfl rfl rfl rfl (by omega) (by omega)) rfl rfl rfl ?_
              refine W.any (.assign rfl) rfl rfl rfl ?_
              refine W.nil ?_
              refine E.thenN ?_
              refine WC.seq ?_
              refine WC.region ?_
              refine W.any (.move rfl) rfl rfl rfl ?_
              refine W.any (.move rfl) rfl rfl rfl ?_
              refine W.any (.addN (rh) (a) (rh + a) rfl rfl rfl rfl (by omega)) rfl rfl rfl ?_
              refine W.any (.assign rfl) rfl rfl rfl ?_
              refine W.nil ?_
              refine E.thenN ?_
              refine WC.seq ?_
              refine WC.region ?_
              refine W.any (.move rfl) rfl rfl rfl ?_
              refine W.any (.geq rfl rfl) rfl rfl rfl ?_
              refine W.nil ?_
              refine E.thenN ?_
              refine WC.cond rfl (fun c6 => ?_) (fun c6 => ?_)
              · have hqe : qh - 1 = Q2 := Nat.le_antisymm (by rw [hQ2]; exact dig_brk hY (by omega) hb1 hinv (by omega) (by omega)) (by omega)
                refine WC.exit ?_
                refine E.blkX rfl ?_
                refine E.thenX ?_
                refine E.blkH ?_
                refine E.meet () (.cons rfl (.cons rfl (.cons rfl (.cons rfl (.cons rfl (.cons rfl (.cons rfl (.cons' rfl (int_eq (by rw [hqe])) (.nil _))))))))) ?_
                exact Ll
              · refine WC.skip ?_
                refine E.blkN ?_
                refine E.again (qh - 1, rh + a) (.cons rfl (.cons rfl (.cons rfl (.cons rfl (.cons rfl (.cons rfl (.cons rfl (.cons rfl (.cons rfl (.nil _)))))))))) ?_ ?_
                · exact ⟨Ll, hinv, by omega, by omega, by omega⟩
                · first | omega | (simp only []; omega)
            · have hqe : qh = Q2 := Nat.le_antisymm (by rw [hQ2]; exact dig_le hY (by omega) hi (by omega)) hq
              refine WC.exit ?_
              refine E.thenX ?_
              refine E.thenX ?_
              refine E.blkH ?_
              refine E.meet () (.cons rfl (.cons rfl (.cons rfl (.cons rfl (.cons rfl (.cons rfl (.cons rfl (.cons' rfl (int_eq (by rw [hqe])) (.nil _))))))))) ?_
              exact Ll
      · rintro ⟨⟩ wc18 Lc18
        refine WC.seq ?_
        refine WC.region ?_
        refine W.any (.move rfl) rfl rfl rfl ?_
        refine W.any (.mulN (Q1) (4294967296) (Q1 * 4294967296 % 18446744073709551616) rfl rfl rfl rfl (rfl)) rfl rfl rfl ?_
        refine W.any (.move rfl) rfl rfl rfl ?_
        refine W.any (.addN (Q1 * 4294967296 % 18446744073709551616) (Q2) ((Q1 * 4294967296 % 18446744073709551616 + Q2) % 18446744073709551616) rfl rfl rfl rfl (rfl)) rfl rfl rfl ?_
        refine W.any (.move rfl) rfl rfl rfl ?_
        refine W.any (.mulN (R) (4294967296) (R * 4294967296 % 18446744073709551616) rfl rfl rfl rfl (rfl)) rfl rfl rfl ?_
        refine W.any (.move rfl) rfl rfl rfl ?_
        refine W.any (.addN (R * 4294967296 % 18446744073709551616) (e0) ((R * 4294967296 + e0) % 18446744073709551616) rfl rfl rfl rfl (by rw [Nat.mod_add_mod])) rfl rfl rfl ?_
        refine W.any (.move rfl) rfl rfl rfl ?_
        refine W.any (.move rfl) rfl rfl rfl ?_
        refine W.any (.mulN (Q2) (Y) (Q2 * Y % 18446744073709551616) rfl rfl rfl rfl (rfl)) rfl rfl rfl ?_
        refine W.any (.subN ((R * 4294967296 + e0) % 18446744073709551616) (Q2 * Y % 18446744073709551616) ((R * 4294967296 + e0) % Y) rfl rfl rfl rfl (Nat.le_of_lt (Nat.mod_lt _ (by decide))) (dig_rest Y _ _ hQ2 (by omega) (by omega))) rfl rfl rfl ?_
        refine W.any (.move rfl) rfl rfl rfl ?_
        refine W.any (.shrE ((R * 4294967296 + e0) % Y) (44) ((h * 18446744073709551616 + l) % y) rfl rfl rfl rfl (by decide) (hfin.out)) rfl rfl rfl ?_
        refine W.any (.assign rfl) rfl rfl rfl ?_
        refine W.any (.assign rfl) rfl rfl rfl ?_
        refine W.nil ?_
        refine E.thenN ?_
        refine WC.ret ?_
        refine E.ret2 rfl rfl rfl ?_
        exact ⟨by rw [hquo.out], Lc18⟩
end Go.Proofs.Ytfgakofjkldcjaa
